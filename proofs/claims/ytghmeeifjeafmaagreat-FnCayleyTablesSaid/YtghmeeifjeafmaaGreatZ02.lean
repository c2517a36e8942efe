import Derived.Test.YtghmeeifjeafmaaGreatZ01
set_option linter.unusedVariables false
set_option linter.unusedSimpArgs false
namespace Go.Proofs.YtghmeeifjeafmaaGreat
theorem kW(w:World)(g:Nat)(old cs:Array Value)(t:TypeId)(fr:Nat×Nat)(hg:w.heap[g]? =some (.cells old t fr)):w.setRow g cs=CQ w g (.cells cs t fr):=by
  have BW:=GQ hg;unfold World.setRow CQ;congr 1
  apply Array.ext
  · simp
  intro i h1 h2;rw[Array.getElem_modify,Array.getElem_setIfInBounds]
  · split
    · rename_i h;subst h;have:w.heap[g]= .cells old t fr:=by rw[Array.getElem?_eq_getElem BW]at hg;simpa using hg
      simp[this]
    rfl
theorem K5{P:Program}{w:World}{g o:Nat}{cur:Array Value}{t:TypeId}(vs:List Value)(hg:w.heap[g]? =some (.cells cur t (0,0)))(hf:o+vs.length≤cur.size)(h1:∀v∈vs,v.oneCell'=true):
    (storeCells ⟨g,o,none⟩ vs).run P w= .ok () (CQ w g (.cells (cur.toList.take o++vs++cur.toList.drop (o+vs.length)).toArray t (0,0))):=by
  have h:=run_storeCells_at P g o t vs 0 cur w hg (by simpa using hf) h1;rw[kW w g cur _ t _ hg]at h;simpa using h
theorem K6{α:Type}(cur:Array α)(o:Nat)(vs:List α)(h:o+vs.length≤cur.size)(k:Nat):
    (cur.toList.take o++vs++cur.toList.drop (o+vs.length)).toArray[k]? =if o≤k∧k<o+vs.length then vs[k-o]? else cur[k]? :=by
  simp only[List.getElem?_toArray];rw[List.append_assoc,List.getElem?_append];have hl:(cur.toList.take o).length=o:=by simp;omega
  rw[hl];split
  · rename_i hk;rw[if_neg (by omega),List.getElem?_take,if_pos hk];simp
  rename_i hk;rw[List.getElem?_append];split
  · rename_i EX;rw[if_pos ⟨by omega,by omega⟩]
  rename_i EX;rw[if_neg (by omega),List.getElem?_drop];rw[show o+vs.length+(k-o-vs.length)=k by omega];simp
def B0(cs:List AV)(o:Nat)(xs:List AV):List AV:=cs.take o++xs++cs.drop (o+xs.length)
theorem OF{cs:List AV}{o:Nat}{xs:List AV}(h:o+xs.length≤cs.length):(B0 cs o xs).length=cs.length:=by
  simp[B0];omega
theorem LW(cs:List AV)(o:Nat)(xs:List AV)(h:o+xs.length≤cs.length)(k:Nat):
    (B0 cs o xs)[k]? =if o≤k∧k<o+xs.length then xs[k-o]? else cs[k]? :=by
  unfold B0;rw[List.append_assoc,List.getElem?_append];have hl:(cs.take o).length=o:=by simp;omega
  rw[hl];split
  · rename_i hk;rw[if_neg (by omega),List.getElem?_take,if_pos hk]
  rename_i hk;rw[List.getElem?_append];split
  · rename_i EX;rw[if_pos ⟨by omega,by omega⟩]
  rename_i EX;rw[if_neg (by omega),List.getElem?_drop];rw[show o+xs.length+(k-o-xs.length)=k by omega]
section
variable{P:Program}{Γ:BV}{o:Oper}{ev:Operand→AV}{H:HP}{id:Nat}
def stop(Γ:BV)(H:HP)(ty:TypeId)(x y:AV)(k:AV→HP→Prop):Prop:=
  match Γ ty,x with
  |some e,.q i off=>QK (H i) fun cs=>TZ y=true∧(BZ y).length=e.size∧off+e.size≤cs.length∧k .j (AU H i (some (B0 cs off (BZ y))))
  |_,_=>False
theorem gM(hG:GJ P Γ){ty:TypeId}{x y:Operand}(ho:o.op= .store ty x y){k:AV→HP→Prop}(h:stop Γ H ty (ev x) (ev y) k):YE P o ev H id k:=by
  unfold stop at h;split at h
  · rename_i e i off he hx;obtain⟨cs,JL,h1,h2,h3,h⟩:=h;intro L Av w ρ hs ZW hL hi AZ;have hu:=AZ x (by rw[ho];simp[Op.operands]);have hv:=AZ y (by rw[ho];simp[Op.operands]);rw[hx]at hu;obtain⟨l,⟨hl,h0⟩,e1⟩:=hu.XG;obtain⟨l',GK,CY⟩:=hs.node i cs JL;rw[hl]at GK;cases GK;obtain⟨arr,et,e2,e3,e4,e5⟩:=CY.ex h0;obtain⟨e6,e7⟩:=QQ hv h1;have e8:=(hG ty e he).CI w;have hlen:(ρ y).cells.toList.length=e.size:=by simp[e6,h2]
    have dU:∀v∈(ρ y).cells.toList,v.oneCell'=true:=by
      intro v hv;obtain⟨j,hj,Dq⟩:=List.getElem_of_mem hv;have dT:j<(BZ (ev y)).length:=by rw[←e6];simpa using hj
      obtain⟨c,e9,_,Nw⟩:=e7 j _ (List.getElem?_eq_getElem dT);have:c=v:=by
        rw[←Dq];have:(ρ y).cells.toList[j]? =some c:=by simpa using e9
        rw[List.getElem?_eq_getElem hj]at this;exact(Option.some.inj this).symm
      rw[←this];exact Nw
    have e11:=K5 (P:=P) (w:=w) (g:=l.D1) (o:=l.off+off) (ρ y).cells.toList e2 (by rw[hlen];omega) dU;obtain⟨e12,e13⟩:=MV hs JL hl (.inl ⟨rfl,rfl⟩) rfl h0 (arr.toList.take (l.off+off)++(ρ y).cells.toList++arr.toList.drop (l.off+off+(ρ y).cells.toList.length)).toArray et (B0 cs off (BZ (ev y))) (by simp;omega) (by rw[OF (by omega)];exact e4) (by
      intro k x hk;rw[LW cs off _ (by omega)]at hk;rw[K6 arr _ _ (by rw[hlen];omega),hlen];split at hk
      · rename_i hc;rw[if_pos ⟨by omega,by omega⟩];obtain⟨c,e14,e15,_⟩:=e7 (k-off) x hk;exact⟨c,by rw[show l.off+k-(l.off+off)=k-off by omega];simpa using e14,e15⟩
      rename_i hc;rw[if_neg (by omega)];exact e5 k x hk)
    rw[T3 L hl,K4]at e12 e13;refine .gG ?_ ⟨_,_,L,h,fun _ _=>rfl,e12,e13,.j _⟩;have a1:¬((ρ y).cells.size≠e.size):=by rw[e6,h2];simp
    simp only[execOp,ho,e1,Instr.storeAt,Instr.sureAddr,Sem.run_bind,Sem.run_pure,Result.andThen_ok,storeVar,e8];simp only[e6,h2];simp[e11]
  exact h.elim
def vw(H:HP):AV→Option (List AV)
  | .v n cs=>if cs.length=n then some cs else none
  | .h i off n=>match H i with
    |some cs=>if off+n≤cs.length then some ((cs.drop off).take n)else none
    |none=>none
  | .nl=>some []
  |_=>none
theorem U1{L:LM}{Av:Nat→Prop}{w:World}(hs:SR L H Av w){x:AV}{u:Value}(hu:R L w (MM L H Av) x u){xs:List AV}(hx:vw H x=some xs):
    ∃a n cp,u= .slice a n cp∧n=xs.length∧∃us:List Value,us.length=xs.length∧(∀w':World,w'.heap=w.heap→(Builtin.firstCells 1 n u).run P w'= .ok us.toArray w')∧∀(k:Nat) (y:AV),xs[k]? =some y→∃c,us[k]? =some c∧R L w (MM L H Av) y c:=by
  unfold vw at hx;split at hx
  · rename_i n cs;split at hx
    · rename_i hlen;cases hx;cases hu with
      | v0 a cp=>
        refine⟨a,0,cp,rfl,rfl,[],rfl,?_,by simp⟩;intro w' _;cases a<;>simp[Builtin.firstCells,loadCells,loadCellsFrom]
      | v _ _ b off cp arr e f us hM hb hn hu hr=>
        refine⟨_,n,cp,rfl,hlen.symm,(List.range' 0 n).map us,by simp[hlen],?_,?_⟩
        · intro w' Dr;have:=run_loadCells (P:=P) (w:=w') (b:=b) (off:=off) (us:=us) n 0 #[] (fun k hk=>by
            rw[Nat.zero_add];exact cell_of (by rw[Dr];exact hb) (hu k (by omega)))
          simp[Builtin.firstCells,loadCells,this]
        intro k y hk;have BW:=(List.getElem?_eq_some_iff.1 hk).1;exact⟨us k,by simp[show k<n by omega],hr k y hk⟩
    cases hx
  · rename_i i off n;split at hx
    · rename_i cs JL;split at hx
      · rename_i hlen;cases hx;obtain⟨l,hl,CY⟩:=hs.node i cs JL;cases hu with
        | h _ _ _ l' a cp GK hn hc ha h0=>
          rw[hl]at GK;cases GK;obtain⟨arr,et,e2,e3,e4,e5⟩:=CY.ex h0;let us:Nat→Value:=fun j=>arr.getD (l.off+off+j) undef
          have DL:∀j,j<n→∃u,arr[l.off+off+j]? =some u∧R L w (MM L H Av) (cs.getD (off+j) .j) u:=by
            intro j hj;have BW:off+j<cs.length:=by omega
            obtain⟨u,h3,h4⟩:=e5 (off+j) cs[off+j] (List.getElem?_eq_getElem BW);exact⟨u,by rw[Nat.add_assoc];exact h3,by simpa[BW]using h4⟩
          refine⟨_,n,cp,rfl,by simp;omega,(List.range' 0 n).map us,by simp;omega,?_,?_⟩
          · intro w' Dr;by_cases LV:n=0
            · subst LV;simp[Builtin.firstCells,loadCells,loadCellsFrom]
            have QR:=ha.resolve_left (by omega);have:=run_loadCells (P:=P) (w:=w') (b:=l.D1) (off:=l.off+off) (us:=us) n 0 #[] (fun k hk=>by
              rw[Nat.zero_add];obtain⟨u,h6,_⟩:=DL k hk;exact cell_of (by rw[Dr];exact e2) (by rw[h6];simp[us,h6]))
            simp[Builtin.firstCells,loadCells,QR,this]
          intro k y hk;simp only[List.getElem?_take,List.getElem?_drop]at hk;split at hk
          · rename_i L4;obtain⟨u,h6,h7⟩:=DL k L4;refine⟨u,by simp[L4,us,h6],?_⟩;rw[show cs.getD (off+k) .j=y by simp[hk]]at h7;exact h7
          cases hk
      cases hx
    cases hx
  · cases hx;rw[hu.DZ];exact⟨none,0,0,rfl,rfl,[],rfl,by intro w' _;simp[Builtin.firstCells],by simp⟩
  cases hx
def QT(H:HP)(x:AV)(xs:List AV)(id:Nat)(k:AV→HP→Prop):Prop:=
  match x with
  | .nl=>(xs=[]→k .nl H)∧(xs≠ []→k (.h id 0 xs.length) (AU H id (some xs)))
  | .h i off n=>QK (H i) fun cs=>off+n≤cs.length∧k (.h id 0 (n+xs.length)) (AU (AU H i none) id (some ((cs.drop off).take n++xs)))
  |_=>False
def WJ:AV→Nat
  | .h _ _ n=>n
  |_=>0
def GB:TypeDesc→Bool
  | .int _=>true
  |_=>false
def K7:TD→Bool
  | .int _=>true
  |_=>false
theorem aE{d:TypeDesc}:GB d=K7 (NF d):=by cases d<;>rfl
def Nx(sz:Nat)(H:HP):AV→Option (Nat×List AV)
  | .v n cs=>if cs.length=n*sz then some (n,cs)else none
  | .hs s i off n=>if s=sz then (match H i with
    |some cs=>if off+n*sz≤cs.length then some (n,(cs.drop off).take (n*sz))else none
    |none=>none)else none
  | .nl=>some (0,[])
  |_=>none
def aF(sz:Nat)(H:HP)(x:AV)(m:Nat)(xs:List AV)(id:Nat)(k:AV→HP→Prop):Prop:=
  match x with
  | .nl=>(m=0→k .nl H)∧(m≠0→k (.hs sz id 0 m) (AU H id (some xs)))
  | .hs s i off n=>s=sz∧QK (H i) fun cs=>off+n*sz≤cs.length∧k (.hs sz id 0 (n+m)) (AU (AU H i none) id (some ((cs.drop off).take (n*sz)++xs)))
  |_=>False
def vC:AV→Nat
  | .hs _ _ _ n=>n
  |_=>0
def nO(Γ:BV)(H:HP)(t1 t2:TypeId)(x y:AV)(id:Nat)(k:AV→HP→Prop):Prop:=
  match Γ t1,Γ t2 with
  | some e1,some e2=>match e1.d with
    | .slice el=>match Γ el with
      | some ee=>Dc (ee.size==1) (ee.zero.cells.size=1∧(match y with
        | .i _ n=>K7 e2.d=true∧0≤n∧n≤9223372036854775807∧(WJ x+n.toNat)*ee.bytes≤140737488355328∧(WJ x+n.toNat≤9223372036854775807)∧one (EI (ee.zero.cells.getD 0 undef))=true∧QT H x (List.replicate n.toNat (EI (ee.zero.cells.getD 0 undef))) id k
        |_=>K7 e2.d=false∧QK (vw H y) fun xs=>(∀z∈xs,one z=true)∧(WJ x+xs.length)*ee.bytes≤140737488355328∧(WJ x+xs.length≤9223372036854775807)∧QT H x xs id k))
        (K7 e2.d=false∧ee.zero.cells.size=ee.size∧QK (Nx ee.size H y) fun m=>(∀z∈m.2,one z=true)∧(vC x+m.1)*ee.bytes≤140737488355328∧(vC x+m.1≤9223372036854775807)∧aF ee.size H x m.1 m.2 id k)
      |none=>False
    |_=>False
  |_,_=>False
theorem gN{P:Program}{sz:Nat}{L:LM}{H:HP}{Av:Nat→Prop}{w:World}(hs:SR L H Av w){x:AV}{u:Value}(hu:R L w (MM L H Av) x u){m:Nat}{xs:List AV}(hx:Nx sz H x=some (m,xs)):
    ∃a cp,u= .slice a m cp∧xs.length=m*sz∧∃us:List Value,us.length=xs.length∧(∀w':World,w'.heap=w.heap→(Builtin.firstCells sz m u).run P w'= .ok us.toArray w')∧∀(k:Nat) (y:AV),xs[k]? =some y→∃c,us[k]? =some c∧R L w (MM L H Av) y c:=by
  unfold Nx at hx;split at hx
  · rename_i n cs;split at hx
    · rename_i hlen;cases hx;cases hu with
      | v0 a cp=>
        refine⟨a,cp,rfl,by simp,[],rfl,?_,by simp⟩;intro w' _;cases a<;>simp[Builtin.firstCells,loadCells,loadCellsFrom]
      | v _ _ b off cp arr e f us hM hb hn hu hr=>
        refine⟨_,cp,rfl,hlen,(List.range' 0 (m*sz)).map us,by simp[hlen],?_,?_⟩
        · intro w' Dr;have:=run_loadCells (P:=P) (w:=w') (b:=b) (off:=off) (us:=us) (m*sz) 0 #[] (fun k hk=>by
            rw[Nat.zero_add];exact cell_of (by rw[Dr];exact hb) (hu k (by omega)))
          simp[Builtin.firstCells,loadCells,this]
        intro k y hk;have BW:=(List.getElem?_eq_some_iff.1 hk).1;exact⟨us k,by simp[show k<m*sz by omega],hr k y hk⟩
    cases hx
  · rename_i s i off n;split at hx
    · rename_i hss;subst hss;split at hx
      · rename_i cs JL;split at hx
        · rename_i hlen;cases hx;obtain⟨l,hl,CY⟩:=hs.node i cs JL;cases hu with
          | hs _ _ _ _ l' a cp GK hn hc ha h0=>
            rw[hl]at GK;cases GK;obtain⟨arr,et,e2,e3,e4,e5⟩:=CY.ex h0;let us:Nat→Value:=fun j=>arr.getD (l.off+off+j) undef
            have DL:∀j,j<m*s→∃u,arr[l.off+off+j]? =some u∧R L w (MM L H Av) (cs.getD (off+j) .j) u:=by
              intro j hj;have BW:off+j<cs.length:=by omega
              obtain⟨u,h3,h4⟩:=e5 (off+j) cs[off+j] (List.getElem?_eq_getElem BW);exact⟨u,by rw[Nat.add_assoc];exact h3,by simpa[BW]using h4⟩
            refine⟨_,cp,rfl,by simp;omega,(List.range' 0 (m*s)).map us,by simp;omega,?_,?_⟩
            · intro w' Dr;by_cases LV:m*s=0
              · simp[Builtin.firstCells,loadCells,LV,loadCellsFrom]
              have QR:=ha.resolve_left (by
                rintro rfl;have:m=0:=by omega
                subst this;simp at LV)
              have:=run_loadCells (P:=P) (w:=w') (b:=l.D1) (off:=l.off+off) (us:=us) (m*s) 0 #[] (fun k hk=>by
                rw[Nat.zero_add];obtain⟨u,h6,_⟩:=DL k hk;exact cell_of (by rw[Dr];exact e2) (by rw[h6];simp[us,h6]))
              simp[Builtin.firstCells,loadCells,QR,this]
            intro k y hk;simp only[List.getElem?_take,List.getElem?_drop]at hk;split at hk
            · rename_i L4;obtain⟨u,h6,h7⟩:=DL k L4;refine⟨u,by simp[L4,us,h6],?_⟩;rw[show cs.getD (off+k) .j=y by simp[hk]]at h7;exact h7
            cases hk
        cases hx
      cases hx
    cases hx
  · cases hx;rw[hu.DZ];exact⟨none,0,rfl,by simp,[],rfl,by intro w' _;simp[Builtin.firstCells],by simp⟩
  cases hx
section
variable{DV:Array TypeId}{ty t1 t2 el:TypeId}{d2:TypeDesc}{ee:TE}{w w':World}{base:Option Addr}{BA C0 n:Nat}{v:Value}{us:List Value}
theorem vD(h0:DV[0]? =some t1)(h1:DV[1]? =some t2)(K8:∀w,(underlying t1).run P w= .ok (.slice el) w)(K9:∀w,(underlying t2).run P w= .ok d2 w)(W7:GB d2=false)
    (EW:∀w,(sizeOf el).run P w= .ok 1 w) (hv:(Builtin.lenOf v).run P w= .ok n w) (Ds:(Builtin.firstCells 1 n v).run P w= .ok us.toArray w) (FX:BA+n≤C0)
    (EM:(match base with|some a=>storeCells (a.add BA) us|none=>pure ():Sem Unit).run P w= .ok () w'):
    (Builtin.append_ DV ty #[.slice base BA C0,v]).run P w= .ok (.slice base (BA+n) C0) w':=by
  cases d2<;>simp only[GB,reduceCtorEq]at W7
  all_goals
    unfold Builtin.append_;simp only[h0,h1,List.getElem?_toArray,List.getElem?_cons_zero,List.getElem?_cons_succ,Sem.run_bind,K8,K9,Result.andThen_ok,EW,Sem.run_pure,Bool.false_eq_true,if_false,hv,FX,if_true,Bool.not_false,Ds,Nat.mul_one];cases base with
    | none=>
      simp only[Sem.run_pure]at EM;cases EM;simp
    |some a=>simp at EM;simp[EM]
theorem nP(h0:DV[0]? =some t1)(h1:DV[1]? =some t2)(K8:∀w,(underlying t1).run P w= .ok (.slice el) w)(K9:∀w,(underlying t2).run P w= .ok d2 w)(W7:GB d2=true)(hE:DU P el ee)
    (EW:ee.size=1) {k:IntKind} {m:Int} (U2:0≤m) (MW:m≤9223372036854775807) (Mc:m*ee.bytes≤281474976710656) {z:Value} (hz:ee.zero.cells=#[z]) (FX:BA+m.toNat≤C0)
    (EM:(match base with|some a=>storeCells (a.add BA) (List.replicate m.toNat z)|none=>pure ():Sem Unit).run P w= .ok () w'):
    (Builtin.append_ DV ty #[.slice base BA C0,.int k m]).run P w= .ok (.slice base (BA+m.toNat) C0) w':=by
  have hs:=fun w=>hE.CI w
  rw[EW]at hs;have vE:=fun w=>hE.F3 w
  obtain⟨ii,h9,LU,IN,mN⟩:=hE.F2 w;have w1:=wrap_i64 (n:=m) (by omega) (by omega);have a1:¬m<0:=by omega
  have a2:¬(281474976710656:Int)<m*ee.bytes:=by omega
  have tT:∀n,Builtin.zeroCells #[z] n=(List.replicate n z).toArray:=by
    intro n;apply Array.ext
    · simp[Builtin.zeroCells]
    intro i h1 h2;simp[Builtin.zeroCells,Nat.mod_one]
  cases d2<;>simp only[GB,Bool.false_eq_true]at W7
  unfold Builtin.append_;simp only[h0,h1,List.getElem?_toArray,List.getElem?_cons_zero,List.getElem?_cons_succ,Sem.run_bind,K8,K9,Result.andThen_ok,hs,Sem.run_pure,if_true,asInt,asIntOf,w1,h9,IN];by_cases hm:m.toNat=0
  · cases base with
    | none=>
      simp only[Sem.run_pure]at EM;cases EM;simp[a1,a2,h9,IN,hm,show BA≤C0 by omega]
    | some a=>
      simp[hm,storeCells]at EM;cases EM;simp[a1,a2,h9,IN,hm,storeCells,show BA≤C0 by omega]
  cases base with
  | none=>
    simp only[Sem.run_pure]at EM;cases EM;simp[a1,a2,h9,IN,hm,FX,vE,hz,tT]
  | some a=>
    simp at EM;simp[a1,a2,h9,IN,hm,FX,vE,hz,tT,EM]
theorem vF(h0:DV[0]? =some t1)(h1:DV[1]? =some t2)(K8:∀w,(underlying t1).run P w= .ok (.slice el) w)(K9:∀w,(underlying t2).run P w= .ok d2 w)(W7:GB d2=false)(hE:DU P el ee)
    (EW:ee.size=1) (hv:(Builtin.lenOf v).run P w= .ok n w) (Ds:(Builtin.firstCells 1 n v).run P w.drew= .ok us.toArray w.drew) {os:List Value} (hold:(Builtin.firstCells 1 BA (.slice base BA C0)).run P w.drew= .ok os.toArray w.drew)
    (FX:¬BA+n≤C0) (Ar:BA+n≤9223372036854775807) (hb:(BA+n)*ee.bytes≤140737488355328) (RV:ee.bytes≠0∨BA+n≤9223372036854775807):
    ∃cap rest,BA+n≤cap∧(os++us).length+rest.length=(os++us).length+(cap-(BA+n))*ee.zero.cells.size∧
    (Builtin.append_ DV ty #[.slice base BA C0,v]).run P w= .ok (.slice (some ⟨w.heap.size,0,none⟩) (BA+n) cap) (w.drew.alloc (.cells (os++us++rest).toArray el (0,0))):=by
  have hs:=fun w=>hE.CI w
  rw[EW]at hs;have vE:=fun w=>hE.F3 w
  obtain⟨ii,h9,LU,IN,mN⟩:=hE.F2 w;obtain⟨ij,g9,Xz,As,Ya⟩:=hE.F2 w.drew;have hf:=growslice_fits (need:=BA+n) (old:=C0) (bytes:=ee.bytes) (by omega) hb;have a2:¬(281474976710656<Builtin.nextslicecap (BA+n) C0*ee.bytes):=by omega
  have a3:¬(((BA+n:Nat):Int)>IntKind.i64.max):=by
    have:IntKind.i64.max=9223372036854775807:=rfl;rw[this];omega
  refine⟨(Question.appendCap (BA+n) C0 el).cut (w.tape w.drawn (.appendCap (BA+n) C0 el)),(Builtin.zeroCells ee.zero.cells ((Question.appendCap (BA+n) C0 el).cut (w.tape w.drawn (.appendCap (BA+n) C0 el))-(BA+n))).toList,by simp[Question.cut],by simp[Builtin.zeroCells],?_⟩;clear RV;cases d2<;>simp only[GB,reduceCtorEq]at W7
  all_goals
    unfold Builtin.append_;simp only[h0,h1,List.getElem?_toArray,List.getElem?_cons_zero,List.getElem?_cons_succ,Sem.run_bind,K8,K9,Result.andThen_ok,hs,Sem.run_pure,Bool.false_eq_true,if_false,hv,FX,Bool.not_false,if_true,h9,IN];rw[if_neg (by intro hc;exact a3 hc.1)];simp only[Sem.run_bind,h9,Result.andThen_ok,IN];rw[if_neg (by simpa using a2)];simp[Question.forced,hs,g9,As,hold,Ds,vE,newRow];congr 2
    apply Array.ext';simp
theorem nQ(h0:DV[0]? =some t1)(h1:DV[1]? =some t2)(K8:∀w,(underlying t1).run P w= .ok (.slice el) w)(K9:∀w,(underlying t2).run P w= .ok d2 w)(W7:GB d2=true)(hE:DU P el ee)
    (EW:ee.size=1) {k:IntKind} {m:Int} (U2:0≤m) (MW:m≤9223372036854775807) (Mc:m*ee.bytes≤281474976710656) {z:Value} (hz:ee.zero.cells=#[z]) {os:List Value} (hold:(Builtin.firstCells 1 BA (.slice base BA C0)).run P w.drew= .ok os.toArray w.drew)
    (FX:¬BA+m.toNat≤C0) (Ar:BA+m.toNat≤9223372036854775807) (hb:(BA+m.toNat)*ee.bytes≤140737488355328):
    ∃cap rest,BA+m.toNat≤cap∧(os++List.replicate m.toNat z).length+rest.length=(os++List.replicate m.toNat z).length+(cap-(BA+m.toNat))*ee.zero.cells.size∧
    (Builtin.append_ DV ty #[.slice base BA C0,.int k m]).run P w= .ok (.slice (some ⟨w.heap.size,0,none⟩) (BA+m.toNat) cap) (w.drew.alloc (.cells (os++List.replicate m.toNat z++rest).toArray el (0,0))):=by
  have hs:=fun w=>hE.CI w
  rw[EW]at hs;have vE:=fun w=>hE.F3 w
  obtain⟨ii,h9,LU,IN,mN⟩:=hE.F2 w;obtain⟨ij,g9,Xz,As,Ya⟩:=hE.F2 w.drew;have hf:=growslice_fits (need:=BA+m.toNat) (old:=C0) (bytes:=ee.bytes) (by omega) hb;have a0:¬m<0:=by omega
  have a1:¬(281474976710656:Int)<m*ee.bytes:=by omega
  have a2:¬(281474976710656<Builtin.nextslicecap (BA+m.toNat) C0*ee.bytes):=by omega
  have a3:¬(((BA+m.toNat:Nat):Int)>IntKind.i64.max):=by
    have:IntKind.i64.max=9223372036854775807:=rfl;rw[this];omega
  have w1:=wrap_i64 (n:=m) (by omega) (by omega);have tT:∀n,Builtin.zeroCells #[z] n=(List.replicate n z).toArray:=by
    intro n;apply Array.ext
    · simp[Builtin.zeroCells]
    intro i h1 h2;simp[Builtin.zeroCells,Nat.mod_one]
  refine⟨(Question.appendCap (BA+m.toNat) C0 el).cut (w.tape w.drawn (.appendCap (BA+m.toNat) C0 el)),(Builtin.zeroCells ee.zero.cells ((Question.appendCap (BA+m.toNat) C0 el).cut (w.tape w.drawn (.appendCap (BA+m.toNat) C0 el))-(BA+m.toNat))).toList,by simp[Question.cut],by simp[Builtin.zeroCells],?_⟩;cases d2<;>simp only[GB,Bool.false_eq_true]at W7
  unfold Builtin.append_;simp only[h0,h1,List.getElem?_toArray,List.getElem?_cons_zero,List.getElem?_cons_succ,Sem.run_bind,K8,K9,Result.andThen_ok,hs,Sem.run_pure,if_true,asInt,asIntOf,w1,h9,IN];rw[if_neg a0];simp only[Sem.run_bind,h9,Result.andThen_ok,IN];rw[if_neg (by simpa using a1)];simp only[Sem.run_pure,Result.andThen_ok,FX,if_false,Sem.run_bind,h9,IN];rw[if_neg (by intro hc;exact a3 hc.1)];simp only[Sem.run_bind,h9,Result.andThen_ok,IN];rw[if_neg (by simpa using a2)];by_cases hm:m.toNat=0
  · simp only[hm,List.replicate_zero,List.append_nil,Nat.add_zero]at*;simp[Question.forced,hs,g9,As,hold,vE,newRow,hm];congr 2
    apply Array.ext';simp
  simp[Question.forced,hs,g9,As,hold,vE,newRow,hm,hz,tT];congr 2
  apply Array.ext';simp
theorem nR{sz:Nat}(h0:DV[0]? =some t1)(h1:DV[1]? =some t2)(K8:∀w,(underlying t1).run P w= .ok (.slice el) w)(K9:∀w,(underlying t2).run P w= .ok d2 w)(W7:GB d2=false)
    (EW:∀w,(sizeOf el).run P w= .ok sz w) (hv:(Builtin.lenOf v).run P w= .ok n w) (Ds:(Builtin.firstCells sz n v).run P w= .ok us.toArray w) (FX:BA+n≤C0)
    (EM:(match base with|some a=>storeCells (a.add (BA*sz)) us|none=>pure ():Sem Unit).run P w= .ok () w'):
    (Builtin.append_ DV ty #[.slice base BA C0,v]).run P w= .ok (.slice base (BA+n) C0) w':=by
  cases d2<;>simp only[GB,reduceCtorEq]at W7
  all_goals
    unfold Builtin.append_;simp only[h0,h1,List.getElem?_toArray,List.getElem?_cons_zero,List.getElem?_cons_succ,Sem.run_bind,K8,K9,Result.andThen_ok,EW,Sem.run_pure,Bool.false_eq_true,if_false,hv,FX,if_true,Bool.not_false,Ds];cases base with
    | none=>
      simp only[Sem.run_pure]at EM;cases EM;simp
    |some a=>simp at EM;simp[EM]
theorem nS{sz:Nat}(h0:DV[0]? =some t1)(h1:DV[1]? =some t2)(K8:∀w,(underlying t1).run P w= .ok (.slice el) w)(K9:∀w,(underlying t2).run P w= .ok d2 w)(W7:GB d2=false)(hE:DU P el ee)
    (EW:ee.size=sz) (hv:(Builtin.lenOf v).run P w= .ok n w) (Ds:(Builtin.firstCells sz n v).run P w.drew= .ok us.toArray w.drew) {os:List Value} (hold:(Builtin.firstCells sz BA (.slice base BA C0)).run P w.drew= .ok os.toArray w.drew)
    (FX:¬BA+n≤C0) (Ar:BA+n≤9223372036854775807) (hb:(BA+n)*ee.bytes≤140737488355328) (RV:ee.bytes≠0∨BA+n≤9223372036854775807):
    ∃cap rest,BA+n≤cap∧(os++us).length+rest.length=(os++us).length+(cap-(BA+n))*ee.zero.cells.size∧
    (Builtin.append_ DV ty #[.slice base BA C0,v]).run P w= .ok (.slice (some ⟨w.heap.size,0,none⟩) (BA+n) cap) (w.drew.alloc (.cells (os++us++rest).toArray el (0,0))):=by
  have hs:=fun w=>hE.CI w
  rw[EW]at hs;have vE:=fun w=>hE.F3 w
  obtain⟨ii,h9,LU,IN,mN⟩:=hE.F2 w;obtain⟨ij,g9,Xz,As,Ya⟩:=hE.F2 w.drew;have hf:=growslice_fits (need:=BA+n) (old:=C0) (bytes:=ee.bytes) (by omega) hb;have a2:¬(281474976710656<Builtin.nextslicecap (BA+n) C0*ee.bytes):=by omega
  have a3:¬(((BA+n:Nat):Int)>IntKind.i64.max):=by
    have:IntKind.i64.max=9223372036854775807:=rfl;rw[this];omega
  refine⟨(Question.appendCap (BA+n) C0 el).cut (w.tape w.drawn (.appendCap (BA+n) C0 el)),(Builtin.zeroCells ee.zero.cells ((Question.appendCap (BA+n) C0 el).cut (w.tape w.drawn (.appendCap (BA+n) C0 el))-(BA+n))).toList,by simp[Question.cut],by simp[Builtin.zeroCells],?_⟩;clear RV;cases d2<;>simp only[GB,reduceCtorEq]at W7
  all_goals
    unfold Builtin.append_;simp only[h0,h1,List.getElem?_toArray,List.getElem?_cons_zero,List.getElem?_cons_succ,Sem.run_bind,K8,K9,Result.andThen_ok,hs,Sem.run_pure,Bool.false_eq_true,if_false,hv,FX,Bool.not_false,if_true,h9,IN];rw[if_neg (by intro hc;exact a3 hc.1)];simp only[Sem.run_bind,h9,Result.andThen_ok,IN];rw[if_neg (by simpa using a2)];simp[Question.forced,hs,g9,As,hold,Ds,vE,newRow];congr 2
    apply Array.ext';simp
end
theorem R.drew{L:LM}{M:Nat→Prop}{w:World}{x:AV}{u:Value}(h:R L w M x u):R L w.drew M x u:=R.mono (w:=w) (w':=w.drew) (M:=M) (M':=M) (fun _ _ h=>h) (fun _ _ _=>rfl) (fun _ _ h=>h) h
theorem R.nT{L:LM}{M:Nat→Prop}{w:World}{x:AV}{u:Value}(h:R L w.drew M x u):R L w M x u:=R.mono (w:=w.drew) (w':=w) (M:=M) (M':=M) (fun _ _ h=>h) (fun _ _ _=>rfl) (fun _ _ h=>h) h
theorem SR.drew{L:LM}{Av:Nat→Prop}{w:World}(s:SR L H Av w):SR L H Av w.drew:=
  ⟨fun id cs h=>by
    obtain⟨l,h1,CY⟩:=s.node id cs h;exact⟨l,h1,CY.mono rfl fun k x hk u h7=>h7.drew⟩,
   s.inj,s.av,s.LP⟩
theorem Step.drew(L:LM)(H:HP)(w:World):Step L H w L H w.drew:=⟨fun _ _ h=>h,rfl,rfl,rfl,Nat.le_refl _,fun _ _ _=>rfl,fun _ _ h=>h⟩
theorem QU{w:World}{b:Nat}{o:Obj}(h:w.heap[b]? =some o):CQ w b o=w:=by
  have BW:=GQ h;unfold CQ;have:w.heap.setIfInBounds b o=w.heap:=by
    apply Array.ext
    · simp
    intro i h1 h2;rw[Array.getElem_setIfInBounds];split
    · rename_i hi;subst hi;rw[Array.getElem?_eq_getElem BW]at h;simpa using h.symm
    rfl
  rw[this]
theorem U3{L:LM}{Av:Nat→Prop}{w:World}(hs:SR L H Av w)(hL:L id=none)(hi:H id=none){x:AV}{u:Value}(hu:R L w (MM L H Av) x u){el:TypeId}
    {xs:List AV} {us:List Value} (hl:us.length=xs.length) (hr:∀(k:Nat) (y:AV),xs[k]? =some y→∃c,us[k]? =some c∧R L w (MM L H Av) y c) (dU:∀v∈us,v.oneCell'=true)
    {k:AV→HP→Prop} (h:QT H x xs id k) (run:Sem Value)
    (FX:∀base BA C0 w',u= .slice base BA C0→BA+us.length≤C0→(match base with|some a=>storeCells (a.add BA) us|none=>pure ():Sem Unit).run P w= .ok () w'→run.run P w= .ok (.slice base (BA+us.length) C0) w')
    (aG:∀base BA C0 os,u= .slice base BA C0→¬BA+us.length≤C0→(Builtin.firstCells 1 BA u).run P w.drew= .ok (List.toArray os) w.drew→∃cap rest,BA+us.length≤cap∧(rest:List Value).length=cap-(BA+us.length)∧
      run.run P w= .ok (.slice (some ⟨w.heap.size,0,none⟩) (BA+us.length) cap) (w.drew.alloc (.cells (os++us++rest).toArray el (0,0)))):
    ∃z w',run.run P w= .ok z w'∧∃r H' L',k r H'∧(∀i,i≠id→L' i=L i)∧SR L' H' Av w'∧Step L H w L' H' w'∧R L' w' (MM L' H' Av) r z:=by
  unfold QT at h;split at h
  · have IM:=hu.DZ;by_cases hx:xs=[]
    · have h0:us=[]:=by rw[←List.length_eq_zero_iff,hl,hx];rfl
      have:=FX none 0 0 w IM (by simp[h0]) rfl;refine⟨_,_,this,.nl,H,L,h.1 hx,fun _ _=>rfl,hs,Step.refl _ _ _,?_⟩;rw[h0];exact .nl
    have nU:0<us.length:=by rw[hl];exact List.length_pos_iff.2 hx
    obtain⟨cap,rest,h1,h2,h3⟩:=aG none 0 0 [] IM (by omega) (by rw[IM];simp[Builtin.firstCells]);obtain⟨h4,h5⟩:=I5 hs.drew hL hi ([]++us++rest).toArray el cap xs (by simp;omega) (by omega) (by
      intro k y hk;obtain⟨c,h6,h7⟩:=hr k y hk;have BW:=(List.getElem?_eq_some_iff.1 h6).1;exact⟨c,by rw[List.getElem?_toArray,List.nil_append,List.getElem?_append_left BW];exact h6,h7.drew⟩)
    refine⟨_,_,h3,_,_,_,h.2 hx,fun i AL=>C3 _ _ AL,h4,(Step.drew _ _ _).trans h5,?_⟩;rw[Nat.zero_add,hl];exact .h _ _ _ _ _ _ (BR _ _ _) (by omega) (by simp) (.inr (by simp)) rfl
  · rename_i i off n;obtain⟨cs,JL,hlen,h⟩:=h;cases hu with
    | h _ _ _ l a cp Dt hn hc ha h0=>
      obtain⟨l',GK,CY⟩:=hs.node i cs JL;rw[Dt]at GK;cases GK;obtain⟨arr,et,e2,e3,e4,e5⟩:=CY.ex h0;by_cases T6:n+us.length≤cp
      · have EM:(storeCells (a.add n) us).run P w= .ok () (CQ w l.D1 (.cells (arr.toList.take (l.off+off+n)++us++arr.toList.drop (l.off+off+n+us.length)).toArray et (0,0))):=by
          by_cases TX:cp=0
          · have h0:us=[]:=by rw[←List.length_eq_zero_iff];omega
            subst h0;have:(arr.toList.take (l.off+off+n)++[]++arr.toList.drop (l.off+off+n+([]:List Value).length)).toArray=arr:=by simp
            rw[this,QU e2];simp[storeCells]
          have:=K5 (P:=P) (w:=w) (g:=l.D1) (o:=l.off+off+n) us e2 (by omega) dU;rw[ha.resolve_left TX,FH];exact this
        have h1:=FX (some a) n cp _ rfl T6 EM;obtain⟨h2,h3⟩:=MV (l':=⟨l.D1,l.off+off,cp,0⟩) (id':=id) hs JL Dt (.inr ⟨hL,hi⟩) rfl rfl (arr.toList.take (l.off+off+n)++us++arr.toList.drop (l.off+off+n+us.length)).toArray et ((cs.drop off).take n++xs) (by simp;omega) (by simp;omega) (by
          intro k y hk;simp only
          rw[K6 arr _ _ (by omega)];rw[List.getElem?_append]at hk;have HR:((cs.drop off).take n).length=n:=by simp;omega
          rw[HR]at hk;split at hk
          · rename_i L4;rw[if_neg (by omega)];simp only[List.getElem?_take,List.getElem?_drop,L4,if_true]at hk;obtain⟨c,h6,h7⟩:=e5 (off+k) y hk;exact⟨c,by rw[Nat.add_assoc];exact h6,h7⟩
          rename_i L4;have BW:=(List.getElem?_eq_some_iff.1 hk).1;rw[if_pos ⟨by omega,by omega⟩];obtain⟨c,h6,h7⟩:=hr (k-n) y hk;exact⟨c,by rw[show l.off+off+k-(l.off+off+n)=k-n by omega];exact h6,h7⟩)
        refine⟨_,_,h1,_,_,_,h,fun j AL=>C3 _ _ AL,h2,h3,?_⟩;rw[←hl];exact .h _ _ _ _ _ _ (BR _ _ _) (by omega) (by simp) (by simpa using ha) rfl
      obtain⟨a',n',cp',f1,f2,os,f3,f4,f5⟩:=U1 (P:=P) hs.drew (x:= .h i off n) (u:= .slice (some a) n cp) (.h _ _ _ l a cp Dt hn hc ha h0) (xs:=(cs.drop off).take n) (by simp[vw,JL,hlen]);cases f1;obtain⟨cap,rest,h1,h2,h3⟩:=aG (some a) n cp os rfl T6 (f4 _ rfl);have gO:os.length=n:=by rw[f3];simp;omega
      have tU:SR L (AU H i none) Av w:=by
        have U4:∀b,LB L (AU H i none) b→LB L H b:=by
          rintro b ⟨j,c,m,g1,g2,g3⟩;unfold AU at g1;split at g1
          · cases g1
          exact⟨j,c,m,g1,g2,g3⟩
        have vG:∀j c,AU H i none j=some c→H j=some c:=by
          intro j c g;unfold AU at g;split at g
          · cases g
          exact g
        refine⟨?_,fun j j' c c' m m' g1 g2=>hs.inj j j' c c' m m' (vG _ _ g1) (vG _ _ g2),fun j c m g=>hs.av j c m (vG _ _ g),hs.LP⟩;intro j c g;obtain⟨m,g1,Du⟩:=hs.node j c (vG _ _ g);exact⟨m,g1,Du.mono rfl fun k y hk c' g7=>R.mono (w:=w) (w':=w) (M:=MM L H Av) (M':=MM L (AU H i none) Av) (fun _ _ h=>h) (fun _ _ _=>rfl) (fun b _ hb=>Or.elim hb .inl (fun h=> .inr (U4 b h))) g7⟩
      have FV:AU H i none id=none:=by unfold AU;split;rfl;exact hi
      have YI:∀{y:AV} {c:Value},R L w (MM L H Av) y c→R L w.drew (MM L (AU H i none) Av) y c:=by
        intro y c g;refine R.mono (w:=w) (w':=w.drew) (M:=MM L H Av) (M':=MM L (AU H i none) Av) (fun _ _ h=>h) (fun _ _ _=>rfl) ?_ g;rintro b _ (hb|⟨j,c,m,g1,g2,g3⟩)
        · exact .inl hb
        unfold AU at g1;split at g1
        · cases g1
        exact .inr ⟨j,c,m,g1,g2,g3⟩
      obtain⟨h4,h5⟩:=I5 tU.drew hL FV (os++us++rest).toArray el cap ((cs.drop off).take n++xs) (by simp;omega) (by simp;omega) (by
        intro k y hk;rw[List.getElem?_append]at hk;have HR:((cs.drop off).take n).length=n:=by simp;omega
        rw[HR]at hk;split at hk
        · rename_i L4;obtain⟨c,h6,h7⟩:=f5 k y hk;refine⟨c,?_,YI h7.nT⟩;rw[List.getElem?_toArray,List.append_assoc,List.getElem?_append_left (by omega)];exact h6
        rename_i L4;have BW:=(List.getElem?_eq_some_iff.1 hk).1;obtain⟨c,h6,h7⟩:=hr (k-n) y hk;refine⟨c,?_,YI h7⟩;rw[List.getElem?_toArray,List.append_assoc,List.getElem?_append_right (by omega),gO,List.getElem?_append_left (by omega)];exact h6)
      have h6:Step L H w L (AU H i none) w:=by
        refine⟨fun _ _ h=>h,rfl,rfl,rfl,Nat.le_refl _,fun _ _ _=>rfl,?_⟩;rintro b _ ⟨j,c,m,g1,g2,g3⟩;unfold AU at g1;split at g1
        · cases g1
        exact⟨j,c,m,g1,g2,g3⟩
      refine⟨_,_,h3,_,_,_,h,fun j AL=>C3 _ _ AL,h4,(h6.trans (Step.drew _ _ _)).trans h5,?_⟩;rw[←hl];exact .h _ _ _ _ _ _ (BR _ _ _) (by omega) (by simp) (.inr (by simp)) rfl
  exact h.elim
theorem aH{sz m:Nat}{L:LM}{Av:Nat→Prop}{w:World}(hs:SR L H Av w)(hL:L id=none)(hi:H id=none){x:AV}{u:Value}(hu:R L w (MM L H Av) x u){el:TypeId}
    {xs:List AV} {us:List Value} (hl:us.length=xs.length) (hxm:xs.length=m*sz) (hr:∀(k:Nat) (y:AV),xs[k]? =some y→∃c,us[k]? =some c∧R L w (MM L H Av) y c) (dU:∀v∈us,v.oneCell'=true)
    {k:AV→HP→Prop} (h:aF sz H x m xs id k) (run:Sem Value)
    (FX:∀base BA C0 w',u= .slice base BA C0→BA+m≤C0→(match base with|some a=>storeCells (a.add (BA*sz)) us|none=>pure ():Sem Unit).run P w= .ok () w'→run.run P w= .ok (.slice base (BA+m) C0) w')
    (aG:∀base BA C0 os,u= .slice base BA C0→¬BA+m≤C0→(Builtin.firstCells sz BA u).run P w.drew= .ok (List.toArray os) w.drew→∃cap rest,BA+m≤cap∧(rest:List Value).length=(cap-(BA+m))*sz∧
      run.run P w= .ok (.slice (some ⟨w.heap.size,0,none⟩) (BA+m) cap) (w.drew.alloc (.cells (os++us++rest).toArray el (0,0)))):
    ∃z w',run.run P w= .ok z w'∧∃r H' L',k r H'∧(∀i,i≠id→L' i=L i)∧SR L' H' Av w'∧Step L H w L' H' w'∧R L' w' (MM L' H' Av) r z:=by
  unfold aF at h;split at h
  · have IM:=hu.DZ;by_cases hx:m=0
    · have h0:us=[]:=by rw[←List.length_eq_zero_iff,hl,hxm,hx];simp
      have:=FX none 0 0 w IM (by simp[hx]) rfl;refine⟨_,_,this,.nl,H,L,h.1 hx,fun _ _=>rfl,hs,Step.refl _ _ _,?_⟩;rw[hx];exact .nl
    obtain⟨cap,rest,h1,h2,h3⟩:=aG none 0 0 [] IM (by omega) (by rw[IM];simp[Builtin.firstCells]);have e1:(0+m)*sz+(cap-(0+m))*sz=cap*sz:=by rw[←Nat.add_mul];congr 1;omega
    rw[Nat.zero_add]at e1 h2;obtain⟨h4,h5⟩:=I5 hs.drew hL hi ([]++us++rest).toArray el (cap*sz) xs (by simp;omega) (by omega) (by
      intro k y hk;obtain⟨c,h6,h7⟩:=hr k y hk;have BW:=(List.getElem?_eq_some_iff.1 h6).1;exact⟨c,by rw[List.getElem?_toArray,List.nil_append,List.getElem?_append_left BW];exact h6,h7.drew⟩)
    refine⟨_,_,h3,_,_,_,h.2 hx,fun i AL=>C3 _ _ AL,h4,(Step.drew _ _ _).trans h5,?_⟩;rw[Nat.zero_add];exact .hs _ _ _ _ _ _ _ (BR _ _ _) (by omega) (by simp) (.inr (by simp)) rfl
  · rename_i s i off n;obtain⟨hss,cs,JL,hlen,h⟩:=h;subst hss;cases hu with
    | hs _ _ _ _ l a cp Dt hn hc ha h0=>
      obtain⟨l',GK,CY⟩:=hs.node i cs JL;rw[Dt]at GK;cases GK;obtain⟨arr,et,e2,e3,e4,e5⟩:=CY.ex h0;have HR:((cs.drop off).take (n*s)).length=n*s:=by simp;omega
      by_cases T6:n+m≤cp
      · have hmul:n*s+m*s≤cp*s:=by rw[←Nat.add_mul];exact Nat.mul_le_mul_right _ T6
        have EM:(storeCells (a.add (n*s)) us).run P w= .ok () (CQ w l.D1 (.cells (arr.toList.take (l.off+off+n*s)++us++arr.toList.drop (l.off+off+n*s+us.length)).toArray et (0,0))):=by
          by_cases TX:cp=0
          · have U2:m=0:=by omega
            have h0:us=[]:=by rw[←List.length_eq_zero_iff,hl,hxm,U2];simp
            subst h0;have:(arr.toList.take (l.off+off+n*s)++[]++arr.toList.drop (l.off+off+n*s+([]:List Value).length)).toArray=arr:=by simp
            rw[this,QU e2];simp[storeCells]
          have:=K5 (P:=P) (w:=w) (g:=l.D1) (o:=l.off+off+n*s) us e2 (by omega) dU;rw[ha.resolve_left TX,FH];exact this
        have h1:=FX (some a) n cp _ rfl T6 EM;obtain⟨h2,h3⟩:=MV (l':=⟨l.D1,l.off+off,cp*s,0⟩) (id':=id) hs JL Dt (.inr ⟨hL,hi⟩) rfl rfl (arr.toList.take (l.off+off+n*s)++us++arr.toList.drop (l.off+off+n*s+us.length)).toArray et ((cs.drop off).take (n*s)++xs) (by simp;omega) (by rw[List.length_append,HR];show _≤cp*s;omega) (by
          intro k y hk;simp only
          rw[K6 arr _ _ (by omega)];rw[List.getElem?_append,HR]at hk;split at hk
          · rename_i L4;rw[if_neg (by omega)];simp only[List.getElem?_take,List.getElem?_drop,L4,if_true]at hk;obtain⟨c,h6,h7⟩:=e5 (off+k) y hk;exact⟨c,by rw[Nat.add_assoc];exact h6,h7⟩
          rename_i L4;have BW:=(List.getElem?_eq_some_iff.1 hk).1;rw[if_pos ⟨by omega,by omega⟩];obtain⟨c,h6,h7⟩:=hr (k-n*s) y hk;exact⟨c,by rw[show l.off+off+k-(l.off+off+n*s)=k-n*s by omega];exact h6,h7⟩)
        refine⟨_,_,h1,_,_,_,h,fun j AL=>C3 _ _ AL,h2,h3,?_⟩;exact .hs _ _ _ _ _ _ _ (BR _ _ _) (by omega) (by simp) (by simpa using ha) rfl
      obtain⟨a',cp',f1,f2,os,f3,f4,f5⟩:=gN (P:=P) (sz:=s) hs.drew (x:= .hs s i off n) (u:= .slice (some a) n cp) (.hs _ _ _ _ l a cp Dt hn hc ha h0) (m:=n) (xs:=(cs.drop off).take (n*s)) (by simp[Nx,JL,hlen]);cases f1;obtain⟨cap,rest,h1,h2,h3⟩:=aG (some a) n cp os rfl T6 (f4 _ rfl);have gO:os.length=n*s:=by rw[f3];exact HR
      have e1:n*s+m*s+(cap-(n+m))*s=cap*s:=by rw[←Nat.add_mul,←Nat.add_mul];congr 1;omega
      have tU:SR L (AU H i none) Av w:=by
        have U4:∀b,LB L (AU H i none) b→LB L H b:=by
          rintro b ⟨j,c,m,g1,g2,g3⟩;unfold AU at g1;split at g1
          · cases g1
          exact⟨j,c,m,g1,g2,g3⟩
        have vG:∀j c,AU H i none j=some c→H j=some c:=by
          intro j c g;unfold AU at g;split at g
          · cases g
          exact g
        refine⟨?_,fun j j' c c' m m' g1 g2=>hs.inj j j' c c' m m' (vG _ _ g1) (vG _ _ g2),fun j c m g=>hs.av j c m (vG _ _ g),hs.LP⟩;intro j c g;obtain⟨m,g1,Du⟩:=hs.node j c (vG _ _ g);exact⟨m,g1,Du.mono rfl fun k y hk c' g7=>R.mono (w:=w) (w':=w) (M:=MM L H Av) (M':=MM L (AU H i none) Av) (fun _ _ h=>h) (fun _ _ _=>rfl) (fun b _ hb=>Or.elim hb .inl (fun h=> .inr (U4 b h))) g7⟩
      have FV:AU H i none id=none:=by unfold AU;split;rfl;exact hi
      have YI:∀{y:AV} {c:Value},R L w (MM L H Av) y c→R L w.drew (MM L (AU H i none) Av) y c:=by
        intro y c g;refine R.mono (w:=w) (w':=w.drew) (M:=MM L H Av) (M':=MM L (AU H i none) Av) (fun _ _ h=>h) (fun _ _ _=>rfl) ?_ g;rintro b _ (hb|⟨j,c,m,g1,g2,g3⟩)
        · exact .inl hb
        unfold AU at g1;split at g1
        · cases g1
        exact .inr ⟨j,c,m,g1,g2,g3⟩
      obtain⟨h4,h5⟩:=I5 tU.drew hL FV (os++us++rest).toArray el (cap*s) ((cs.drop off).take (n*s)++xs) (by simp;omega) (by rw[List.length_append,HR];omega) (by
        intro k y hk;rw[List.getElem?_append,HR]at hk;split at hk
        · rename_i L4;obtain⟨c,h6,h7⟩:=f5 k y (by rw[List.getElem?_eq_getElem (by omega)]at hk ⊢;exact hk);refine⟨c,?_,YI h7.nT⟩;rw[List.getElem?_toArray,List.append_assoc,List.getElem?_append_left (by omega)];exact h6
        rename_i L4;have BW:=(List.getElem?_eq_some_iff.1 hk).1;obtain⟨c,h6,h7⟩:=hr (k-n*s) y hk;refine⟨c,?_,YI h7⟩;rw[List.getElem?_toArray,List.append_assoc,List.getElem?_append_right (by omega),gO,List.getElem?_append_left (by omega)];exact h6)
      have h6:Step L H w L (AU H i none) w:=by
        refine⟨fun _ _ h=>h,rfl,rfl,rfl,Nat.le_refl _,fun _ _ _=>rfl,?_⟩;rintro b _ ⟨j,c,m,g1,g2,g3⟩;unfold AU at g1;split at g1
        · cases g1
        exact⟨j,c,m,g1,g2,g3⟩
      refine⟨_,_,h3,_,_,_,h,fun j AL=>C3 _ _ AL,h4,(h6.trans (Step.drew _ _ _)).trans h5,?_⟩;exact .hs _ _ _ _ _ _ _ (BR _ _ _) (by omega) (by simp) (.inr (by simp)) rfl
  exact h.elim
theorem gP(hG:GJ P Γ){x y:Operand}{t1 t2:TypeId}{DV:Array TypeId}(ho:o.op= .call ⟨.builtin .append,#[x,y],DV⟩)(At:DV[0]? =some t1)(Au:DV[1]? =some t2){k:AV→HP→Prop}
    (h:nO Γ H t1 t2 (ev x) (ev y) id k):YE P o ev H id k:=by
  unfold nO at h;split at h
  · rename_i e1 e2 Me P6;split at h
    · rename_i el hd;split at h
      · rename_i ee S4;by_cases h1:ee.size=1
        · rw[Ao h1]at h;obtain⟨h2,h⟩:=h;intro L Av w ρ hs ZW hL hi AZ;have hu:=AZ x (by rw[ho];simp[Op.operands,Call.operands]);have hv:=AZ y (by rw[ho];simp[Op.operands,Call.operands]);have K8:=((hG t1 e1 Me).slice hd).2;obtain⟨d2,W7,_,K9⟩:=(hG t2 e2 P6).CL;rw[←W7,←aE]at h;have hE:=hG el ee S4;have EW:=fun w=>hE.CI w
          rw[h1]at EW;obtain⟨z,hz⟩:∃z,ee.zero.cells=#[z]:=by
            cases tT:ee.zero.cells with
            |mk l=>rw[tT]at h2;match l,h2 with|[z],_=>exact⟨z,rfl⟩
          have hex:∀z w',(Builtin.append_ DV o.type #[ρ x,ρ y]).run P w= .ok z w'→(execOp ρ o).run P w= .ok (.value z) w':=by
            intro z w' hz;simp only[execOp,ho,resolve,invoke,builtin,Sem.run_bind,Sem.run_pure,Result.andThen_ok,List.map_toArray,List.map_cons,List.map_nil,hz]
          split at h
          · rename_i kk m hy;obtain⟨c1,c2,c3,c4,c5,c6,h⟩:=h;have Mc:m*ee.bytes≤281474976710656:=by
              have h6:(m.toNat:Int)*(ee.bytes:Int)≤140737488355328:=by
                have:m.toNat*ee.bytes≤(WJ (ev x)+m.toNat)*ee.bytes:=Nat.mul_le_mul_right _ (by omega);have h7:m.toNat*ee.bytes≤140737488355328:=by omega
                rw[←Int.natCast_mul];generalize m.toNat*ee.bytes=q at h7
                omega
              rw[Int.toNat_of_nonneg c2]at h6;omega
            rw[hy]at hv;have hlen:∀base BA C0,ρ x= .slice base BA C0→BA=WJ (ev x):=by
              intro base BA C0 hρ;unfold QT at h;split at h
              · rename_i KA;rw[KA]at hu;have:=hu.DZ;rw[hρ]at this;cases this;rw[KA];rfl
              · rename_i i off n KA;rw[KA]at hu;rw[hρ]at hu;cases hu;rw[KA];rfl
              exact h.elim
            have KV:ee.zero.cells.getD 0 undef=z:=by rw[hz];rfl
            rw[KV]at c6 h;have aI:z.oneCell'=true:=(I2 (R.EI L w (MM L H Av) z) c6).2;obtain⟨zz,w',DE,r,H',L',q1,q2,q3,q4,q5⟩:=U3 (P:=P) (el:=el) hs hL hi hu (xs:=List.replicate m.toNat (EI z)) (us:=List.replicate m.toNat z) (by simp) (by
                intro k y hk;simp only[List.getElem?_replicate]at hk;split at hk
                · rename_i BW;cases hk;exact⟨z,by simp[BW],R.EI _ _ _ _⟩
                cases hk) (by intro v hv;rw[(List.mem_replicate.1 hv).2];exact aI) h (Builtin.append_ DV o.type #[ρ x,ρ y])
              (by
                intro base BA C0 w' hρ T6 EM;rw[hρ,hv.D4];simp only[List.length_replicate]at T6 ⊢;exact nP At Au K8 K9 c1 hE h1 c2 c3 Mc hz T6 EM)
              (by
                intro base BA C0 os hρ T6 hold;have:=hlen _ _ _ hρ;rw[hρ]at hold;rw[hρ,hv.D4];simp only[List.length_replicate]at T6 ⊢;obtain⟨cap,rest,g1,g2,g3⟩:=nQ (ty:=o.type) At Au K8 K9 c1 hE h1 (k:=kk) c2 c3 Mc hz hold T6 (by omega) (by rw[this];exact c4);refine⟨cap,rest,g1,?_,g3⟩;rw[h2]at g2;omega)
            exact .CJ (hex _ _ DE) ⟨r,H',L',q1,q2,q3,q4,q5⟩
          obtain⟨c1,xs,JH,c6,c4,c5,h⟩:=h;obtain⟨a,n,cp,f1,f2,us,f3,f4,f5⟩:=U1 (P:=P) hs hv JH;have hlen:∀base BA C0,ρ x= .slice base BA C0→BA=WJ (ev x):=by
            intro base BA C0 hρ;unfold QT at h;split at h
            · rename_i KA;rw[KA]at hu;have:=hu.DZ;rw[hρ]at this;cases this;rw[KA];rfl
            · rename_i i off n KA;rw[KA]at hu;rw[hρ]at hu;cases hu;rw[KA];rfl
            exact h.elim
          have aI:∀v∈us,v.oneCell'=true:=by
            intro v hv;obtain⟨j,hj,Dq⟩:=List.getElem_of_mem hv;have dT:j<xs.length:=by omega
            obtain⟨c,e9,Nw⟩:=f5 j _ (List.getElem?_eq_getElem dT);have Ny:c=v:=by
              rw[List.getElem?_eq_getElem hj,Dq]at e9;exact(Option.some.inj e9).symm
            rw[←Ny];exact(I2 Nw (c6 _ (List.getElem_mem dT))).2
          have I6:∀w,(Builtin.lenOf (ρ y)).run P w= .ok us.length w:=by
            intro w;rw[f1];simp only[Builtin.lenOf,Sem.run_pure];rw[show us.length=n by omega]
          have hf4:(Builtin.firstCells 1 us.length (ρ y)).run P w= .ok us.toArray w:=by
            rw[show us.length=n by omega];exact f4 _ rfl
          have A05:(Builtin.firstCells 1 us.length (ρ y)).run P w.drew= .ok us.toArray w.drew:=by
            rw[show us.length=n by omega];exact f4 _ rfl
          obtain⟨zz,w',DE,r,H',L',q1,q2,q3,q4,q5⟩:=U3 (P:=P) (el:=el) hs hL hi hu (xs:=xs) (us:=us) f3 f5 aI h (Builtin.append_ DV o.type #[ρ x,ρ y])
            (by
              intro base BA C0 w' hρ T6 EM;rw[hρ];exact vD At Au K8 K9 c1 EW (I6 w) hf4 T6 EM)
            (by
              intro base BA C0 os hρ T6 hold;have:=hlen _ _ _ hρ;rw[hρ]at hold;rw[hρ];obtain⟨cap,rest,g1,g2,g3⟩:=vF (ty:=o.type) At Au K8 K9 c1 hE h1 (I6 w) A05 hold T6 (by omega) (by rw[this,f3];exact c4) (.inr (by omega));refine⟨cap,rest,g1,?_,g3⟩;rw[h2]at g2;omega)
          exact .CJ (hex _ _ DE) ⟨r,H',L',q1,q2,q3,q4,q5⟩
        rw[Ap h1]at h;obtain⟨c1,h2,⟨m,xs⟩,JH,c6,c4,c5,h⟩:=h;intro L Av w ρ hs ZW hL hi AZ;have hu:=AZ x (by rw[ho];simp[Op.operands,Call.operands]);have hv:=AZ y (by rw[ho];simp[Op.operands,Call.operands]);have K8:=((hG t1 e1 Me).slice hd).2;obtain⟨d2,W7,_,K9⟩:=(hG t2 e2 P6).CL;rw[←W7,←aE]at c1;have hE:=hG el ee S4;have EW:=fun w=>hE.CI w
        have hex:∀z w',(Builtin.append_ DV o.type #[ρ x,ρ y]).run P w= .ok z w'→(execOp ρ o).run P w= .ok (.value z) w':=by
          intro z w' hz;simp only[execOp,ho,resolve,invoke,builtin,Sem.run_bind,Sem.run_pure,Result.andThen_ok,List.map_toArray,List.map_cons,List.map_nil,hz]
        obtain⟨a,cp,f1,f2,us,f3,f4,f5⟩:=gN (P:=P) hs hv JH;have hlen:∀base BA C0,ρ x= .slice base BA C0→BA=vC (ev x):=by
          intro base BA C0 hρ;unfold aF at h;split at h
          · rename_i KA;rw[KA]at hu;have:=hu.DZ;rw[hρ]at this;cases this;rw[KA];rfl
          · rename_i s i off n KA;rw[KA]at hu;rw[hρ]at hu;cases hu;rw[KA];rfl
          exact h.elim
        have aI:∀v∈us,v.oneCell'=true:=by
          intro v hv;obtain⟨j,hj,Dq⟩:=List.getElem_of_mem hv;have dT:j<xs.length:=by omega
          obtain⟨c,e9,Nw⟩:=f5 j _ (List.getElem?_eq_getElem dT);have Ny:c=v:=by
            rw[List.getElem?_eq_getElem hj,Dq]at e9;exact(Option.some.inj e9).symm
          rw[←Ny];exact(I2 Nw (c6 _ (List.getElem_mem dT))).2
        have I6:∀w,(Builtin.lenOf (ρ y)).run P w= .ok m w:=by
          intro w;rw[f1];simp only[Builtin.lenOf,Sem.run_pure]
        obtain⟨zz,w',DE,r,H',L',q1,q2,q3,q4,q5⟩:=aH (P:=P) (el:=el) hs hL hi hu (xs:=xs) (us:=us) f3 f2 f5 aI h (Builtin.append_ DV o.type #[ρ x,ρ y])
          (by
            intro base BA C0 w' hρ T6 EM;rw[hρ];exact nR At Au K8 K9 c1 EW (I6 w) (f4 _ rfl) T6 EM)
          (by
            intro base BA C0 os hρ T6 hold;have:=hlen _ _ _ hρ;rw[hρ]at hold;rw[hρ];obtain⟨cap,rest,g1,g2,g3⟩:=nS (ty:=o.type) At Au K8 K9 c1 hE rfl (I6 w) (f4 _ rfl) hold T6 (by omega) (by rw[this];exact c4) (.inr (by omega));refine⟨cap,rest,g1,?_,g3⟩;rw[h2]at g2;omega)
        exact .CJ (hex _ _ DE) ⟨r,H',L',q1,q2,q3,q4,q5⟩
      exact h.elim
    exact h.elim
  exact h.elim
end
end Go.Proofs.YtghmeeifjeafmaaGreat
namespace Go.Proofs.YtghmeeifjeafmaaGreat
def Mf(P:Program)(f:FuncId):Prop:=∃fn,P.funcs[f]? =some fn∧fn.body.isNone=false∧(fn.name== "runtime.NumGoroutine")=false
def GU(L:LM)(w:World)(M:Nat→Prop)(Zz:List AV)(us:Array Value):Prop:=
  us.size=Zz.length∧∀(k:Nat) (x:AV),Zz[k]? =some x→R L w M x (us.getD k undef)
def AC(P:Program)(f:FuncId)(nx:Nat)(H:HP)(Zz:List AV)(Q:Nat→HP→AV→Prop):Prop:=
  Mf P f∧∀(L:LM) (Av:Nat→Prop) (w:World) (us:Array Value),SR L H Av w→(∀i,nx≤i→L i=none)→GU L w (MM L H Av) Zz us→
    Calls P f us w fun e w'=>∃u r L' nx' H',e= .returned u∧Q nx' H' r∧nx≤nx'∧(∀i,nx'≤i→L' i=none)∧(∀i,i<nx→L' i=L i)∧SR L' H' Av w'∧Step L H w L' H' w'∧R L' w' (MM L' H' Av) r u
theorem AC.mono{P:Program}{f:FuncId}{nx:Nat}{H:HP}{Zz:List AV}{Q Q':Nat→HP→AV→Prop}(h:AC P f nx H Zz Q)(hq:∀n H r,Q n H r→Q' n H r):AC P f nx H Zz Q':=
  ⟨h.1,fun L Av w us a b c=>(h.2 L Av w us a b c).mono fun e w' ⟨u,r,L',nx',H',h1,h2,h3⟩=>⟨u,r,L',nx',H',h1,hq _ _ _ h2,h3⟩⟩
def BN:HP:=fun _=>none
def BG(P:Program)(f:FuncId)(Zz:List AV)(r:AV):Prop:=
  Mf P f∧∀(L:LM) (M:Nat→Prop) (w:World) (us:Array Value),(∀b,M b→b<w.heap.size)→(∃n,∀i,n≤i→L i=none)→GU L w M Zz us→
    Calls P f us w fun e w'=>∃u,e= .returned u∧Step L BN w L BN w'∧R L w' M r u
theorem HG{L:LM}{b:Nat}:¬LB L BN b:=by rintro⟨id,cs,l,h,_⟩;cases h
theorem LX{L:LM}{M:Nat→Prop}{w:World}(h:∀b,M b→b<w.heap.size):SR L BN M w:=
  ⟨fun id cs h=>(by cases h),fun id id' cs CX l l' h=>(by cases h),fun id cs l h=>(by cases h),h⟩
theorem LY{L:LM}{M:Nat→Prop}:MM L BN M=M:=by
  funext b;apply propext
  exact⟨fun h=>h.elim id (fun h=>absurd h HG),.inl⟩
theorem nV{L:LM}{H:HP}{Av:Nat→Prop}{w:World}(s:SR L H Av w):∀b,MM L H Av b→b<w.heap.size:=
  fun b h=>h.elim (s.LP b) (IX s)
theorem SR.kept{L:LM}{H:HP}{Av:Nat→Prop}{w w':World}(s:SR L H Av w)(st:Step L BN w L BN w'):SR L H Av w'∧Step L H w L H w':=by
  have hk:∀b,b<w.heap.size→w'.heap[b]? =w.heap[b]? :=fun b hb=>st.AD b hb HG
  have EM:Step L H w L H w':=⟨fun _ _ h=>h,st.os,st.tape,st.output,st.size,fun b hb _=>hk b hb,fun _ _ h=>h⟩;refine⟨⟨?_,s.inj,s.av,fun b hb=>Nat.lt_of_lt_of_le (s.LP b hb) st.size⟩,EM⟩;intro id cs h;obtain⟨l,h1,CY⟩:=s.node id cs h;exact⟨l,h1,CY.mono (hk _ CY.lt) fun k x hx u h7=>h7.step EM⟩
inductive Vw (H:HP):AV→AV→Prop
  |refl (a:AV):Vw H a a
  |nl:Vw H .nl (.v 0 [])
  |h (id o n:Nat) (cs ts:List AV) (h1:H id=some cs) (h2:o+n≤cs.length) (h3:ts.length=n) (h4:∀(k:Nat) (x y:AV),cs[o+k]? =some x→ts[k]? =some y→Vw H x y):Vw H (.h id o n) (.v n ts)
  |hs (s id o n:Nat) (cs ts:List AV) (h1:H id=some cs) (h2:o+n*s≤cs.length) (h3:ts.length=n*s) (h4:∀(k:Nat) (x y:AV),cs[o+k]? =some x→ts[k]? =some y→Vw H x y):Vw H (.hs s id o n) (.v n ts)
  |q (id o:Nat) (cs ts:List AV) (h1:H id=some cs) (h3:ts.length=cs.length) (h4:∀(k:Nat) (x y:AV),cs[k]? =some x→ts[k]? =some y→Vw H x y):Vw H (.q id o) (.p o ts)
  |g (cs ts:List AV) (h3:ts.length=cs.length) (h4:∀(k:Nat) (x y:AV),cs[k]? =some x→ts[k]? =some y→Vw H x y):Vw H (.g cs) (.g ts)
  |t (cs ts:List AV) (h3:ts.length=cs.length) (h4:∀(k:Nat) (x y:AV),cs[k]? =some x→ts[k]? =some y→Vw H x y):Vw H (.t cs) (.t ts)
  |v (n:Nat) (cs ts:List AV) (h3:ts.length=cs.length) (h4:∀(k:Nat) (x y:AV),cs[k]? =some x→ts[k]? =some y→Vw H x y):Vw H (.v n cs) (.v n ts)
  |p (n:Nat) (cs ts:List AV) (h3:ts.length=cs.length) (h4:∀(k:Nat) (x y:AV),cs[k]? =some x→ts[k]? =some y→Vw H x y):Vw H (.p n cs) (.p n ts)
  |f (n:Nat) (cs ts:List AV) (h3:ts.length=cs.length) (h4:∀(k:Nat) (x y:AV),cs[k]? =some x→ts[k]? =some y→Vw H x y):Vw H (.f n cs) (.f n ts)
theorem Vw.sound{L:LM}{H:HP}{Av:Nat→Prop}{w:World}(s:SR L H Av w){a t:AV}(v:Vw H a t):∀{u:Value},R L w (MM L H Av) a u→R L w Av t u:=by
  have hM:∀{x:AV} {u:Value},R L w (MM L H Av) x u→R L w Av x u:=fun h=>h.mono (fun _ _ h=>h) (fun _ _ _=>rfl) (fun _ _ h=> .inl h)
  induction v with
  |refl a=>intro u h;exact hM h
  |nl=>intro u h;rw[h.DZ];exact .v0 _ _
  | h id o n cs ts h1 h2 h3 h4 ih=>
    intro u h;obtain⟨l,hl,CY⟩:=s.node id cs h1;cases h with
    | h _ _ _ l' ad cp GK hn hc ha h0=>
      rw[hl]at GK;cases GK;obtain⟨arr,e,e2,e3,e4,e5⟩:=CY.ex h0;by_cases LV:n=0
      · subst LV;have:ts=[]:=List.length_eq_zero_iff.1 h3;subst this;exact .v0 _ _
      rw[ha.resolve_left (by omega)];have DL:∀k,k<n→∃u,arr[l.off+o+k]? =some u∧R L w (MM L H Av) (cs.getD (o+k) .j) u:=by
        intro j hj;have BW:o+j<cs.length:=by omega
        obtain⟨u,h3,h4⟩:=e5 (o+j) cs[o+j] (List.getElem?_eq_getElem BW);exact⟨u,by rw[Nat.add_assoc];exact h3,by simpa[BW]using h4⟩
      refine .v n ts l.D1 (l.off+o) cp arr e _ (fun k=>arr.getD (l.off+o+k) undef) (s.av id cs l h1 hl) e2 hn ?_ ?_
      · intro k hk;obtain⟨u,h6,_⟩:=DL k (by omega);rw[h6];simp[h6]
      intro k y hy;have hk:=(List.getElem?_eq_some_iff.1 hy).1;obtain⟨u,h6,h7⟩:=DL k (by omega);have BW:o+k<cs.length:=by omega
      have hx:cs[o+k]? =some (cs.getD (o+k) .j):=by simp[BW]
      have:=ih k _ y hx hy h7;rw[show arr.getD (l.off+o+k) undef=u by simp[h6]];exact this
  | hs z id o n cs ts h1 h2 h3 h4 ih=>
    intro u h;obtain⟨l,hl,CY⟩:=s.node id cs h1;cases h with
    | hs _ _ _ _ l' ad cp GK hn hc ha h0=>
      rw[hl]at GK;cases GK;obtain⟨arr,e,e2,e3,e4,e5⟩:=CY.ex h0;by_cases LV:n=0
      · subst LV;have:ts=[]:=List.length_eq_zero_iff.1 (by simpa using h3);subst this;exact .v0 _ _
      rw[ha.resolve_left (by omega)];have DL:∀k,k<n*z→∃u,arr[l.off+o+k]? =some u∧R L w (MM L H Av) (cs.getD (o+k) .j) u:=by
        intro j hj;have BW:o+j<cs.length:=by omega
        obtain⟨u,h3,h4⟩:=e5 (o+j) cs[o+j] (List.getElem?_eq_getElem BW);exact⟨u,by rw[Nat.add_assoc];exact h3,by simpa[BW]using h4⟩
      refine .v n ts l.D1 (l.off+o) cp arr e _ (fun k=>arr.getD (l.off+o+k) undef) (s.av id cs l h1 hl) e2 hn ?_ ?_
      · intro k hk;obtain⟨u,h6,_⟩:=DL k (by omega);rw[h6];simp[h6]
      intro k y hy;have hk:=(List.getElem?_eq_some_iff.1 hy).1;obtain⟨u,h6,h7⟩:=DL k (by omega);have BW:o+k<cs.length:=by omega
      have hx:cs[o+k]? =some (cs.getD (o+k) .j):=by simp[BW]
      have:=ih k _ y hx hy h7;rw[show arr.getD (l.off+o+k) undef=u by simp[h6]];exact this
  | q id o cs ts h1 h3 h4 ih=>
    intro u h;obtain⟨l,hl,CY⟩:=s.node id cs h1;obtain⟨l',⟨GK,h0⟩,hu⟩:=h.XG;rw[hl]at GK;cases GK;obtain⟨arr,e,e2,e3,e4,e5⟩:=CY.ex h0;rw[hu];refine .p o ts l.D1 l.off arr e _ (fun k=>arr.getD (l.off+k) undef) (s.av id cs l h1 hl) e2 ?_ ?_
    · intro k hk;obtain⟨u,h6,_⟩:=e5 k cs[k] (List.getElem?_eq_getElem (by omega));rw[h6];simp[h6]
    intro k y hy;have hk:=(List.getElem?_eq_some_iff.1 hy).1;obtain⟨u,h6,h7⟩:=e5 k cs[k] (List.getElem?_eq_getElem (by omega));have:=ih k _ y (List.getElem?_eq_getElem (by omega)) hy h7;rw[show arr.getD (l.off+k) undef=u by simp[h6]];exact this
  | g cs ts h3 h4 ih=>
    intro u h;cases h with
    | g _ us hs hr=>
      refine .g ts us (by omega) ?_;intro k y hy;have hk:=(List.getElem?_eq_some_iff.1 hy).1;have hx:cs[k]? =some cs[k]:=List.getElem?_eq_getElem (by omega);exact ih k _ y hx hy (hr k _ hx)
  | t cs ts h3 h4 ih=>
    intro u h;cases h with
    | t _ us hs hr=>
      refine .t ts us (by omega) ?_;intro k y hy;have hk:=(List.getElem?_eq_some_iff.1 hy).1;have hx:cs[k]? =some cs[k]:=List.getElem?_eq_getElem (by omega);exact ih k _ y hx hy (hr k _ hx)
  | f n cs ts h3 h4 ih=>
    intro u h;cases h with
    | f _ _ us hs hr=>
      refine .f n ts us (by omega) ?_;intro k y hy;have hk:=(List.getElem?_eq_some_iff.1 hy).1;have hx:cs[k]? =some cs[k]:=List.getElem?_eq_getElem (by omega);exact ih k _ y hx hy (hr k _ hx)
  | v n cs ts h3 h4 ih=>
    intro u h;cases h with
    | v0 a cp=>
      have:ts=[]:=List.length_eq_zero_iff.1 (by simpa using h3);subst this;exact .v0 _ _
    | v _ _ b off cp arr e f us hm hb hn hu hr=>
      refine .v n ts b off cp arr e f us (fun h=>hm (.inl h)) hb hn (fun k hk=>hu k (by omega)) ?_;intro k y hy;have hk:=(List.getElem?_eq_some_iff.1 hy).1;have hx:cs[k]? =some cs[k]:=List.getElem?_eq_getElem (by omega);exact ih k _ y hx hy (hr k _ hx)
  | p n cs ts h3 h4 ih=>
    intro u h;cases h with
    | p _ _ b off arr e f us hm hb hu hr=>
      refine .p n ts b off arr e f us (fun h=>hm (.inl h)) hb (fun k hk=>hu k (by omega)) ?_;intro k y hy;have hk:=(List.getElem?_eq_some_iff.1 hy).1;have hx:cs[k]? =some cs[k]:=List.getElem?_eq_getElem (by omega);exact ih k _ y hx hy (hr k _ hx)
inductive WK (H:HP):List AV→List AV→Prop
  |nil:WK H [] []
  |cons {a t:AV} {Zz ts:List AV} (h:Vw H a t) (hs:WK H Zz ts):WK H (a::Zz) (t::ts)
theorem WK.get{H:HP}{Zz ts:List AV}(h:WK H Zz ts):ts.length=Zz.length∧∀(k:Nat) (t:AV),ts[k]? =some t→∃a,Zz[k]? =some a∧Vw H a t:=by
  induction h with
  |nil=>exact⟨rfl,by simp⟩
  | cons h hs ih=>
    refine⟨by simp[ih.1],?_⟩;intro k t hk;cases k with
    |zero=>simp at hk;subst hk;exact⟨_,rfl,h⟩
    |succ k=>exact ih.2 k t (by simpa using hk)
theorem GU.view{L:LM}{H:HP}{Av:Nat→Prop}{w:World}(s:SR L H Av w){Zz ts:List AV}{us:Array Value}(h:GU L w (MM L H Av) Zz us)(v:WK H Zz ts):GU L w Av ts us:=by
  obtain⟨h1,h2⟩:=v.get;refine⟨by rw[h.1,h1],?_⟩;intro k t hk;obtain⟨a,h3,h4⟩:=h2 k t hk;exact h4.sound s (h.2 k a h3)
def RC(P:Program)(f:FuncId)(H:HP)(Zz:List AV)(r:AV):Prop:=
  BG P f Zz r∨∃ts,WK H Zz ts∧BG P f ts r∧Fl r
theorem RC.run{P:Program}{f:FuncId}{H H':HP}{Zz:List AV}{r:AV}(h:RC P f H Zz r)(hH:∀i c,H i=some c→H' i=some c):Mf P f∧∀(L:LM) (Av:Nat→Prop) (w:World) (us:Array Value),SR L H' Av w→(∃n,∀i,n≤i→L i=none)→GU L w (MM L H' Av) Zz us→
    Calls P f us w fun e w'=>∃u,e= .returned u∧SR L H' Av w'∧Step L H' w L H' w'∧R L w' (MM L H' Av) r u:=by
  rcases h with h|⟨ts,hv,h,hf⟩
  · refine⟨h.1,fun L Av w us s hn a=>(h.2 L _ w us (nV s) hn a).mono ?_⟩;rintro e w' ⟨u,h1,h2,h3⟩;exact⟨u,h1,(s.kept h2).1,(s.kept h2).2,h3⟩
  refine⟨h.1,fun L Av w us s hn a=>(h.2 L _ w us s.LP hn (a.view s ?_)).mono ?_⟩
  · have mono:∀{a t:AV},Vw H a t→Vw H' a t:=by
      intro a t v;induction v with
      |refl a=>exact .refl a
      |nl=>exact .nl
      |h id o n cs ts h1 h2 h3 h4 ih=>exact .h id o n cs ts (hH _ _ h1) h2 h3 ih
      |hs s id o n cs ts h1 h2 h3 h4 ih=>exact .hs s id o n cs ts (hH _ _ h1) h2 h3 ih
      |q id o cs ts h1 h3 h4 ih=>exact .q id o cs ts (hH _ _ h1) h3 ih
      |g cs ts h3 h4 ih=>exact .g cs ts h3 ih
      |t cs ts h3 h4 ih=>exact .t cs ts h3 ih
      |v n cs ts h3 h4 ih=>exact .v n cs ts h3 ih
      |p n cs ts h3 h4 ih=>exact .p n cs ts h3 ih
      |f n cs ts h3 h4 ih=>exact .f n cs ts h3 ih
    clear a h;induction hv with
    |nil=>exact .nil
    |cons h hs ih=>exact .cons (mono h) ih
  rintro e w' ⟨u,h1,h2,h3⟩;exact⟨u,h1,(s.kept h2).1,(s.kept h2).2,h3.fl (fun _ _ h=>h) hf⟩
theorem QW{P:Program}{f:FuncId}(he:Mf P f){o:Oper}{ρ:Operand→Value}{args:Array Operand}{DV:Array TypeId}(ho:o.op= .call ⟨.value (.func f),args,DV⟩)(hρ:ρ (.func f)= .func (.func f) #[] #[])(w:World):
    (execOp ρ o).run P w= .ok (.enter f (args.map ρ)) w:=by
  obtain⟨fn,h1,h2,h3⟩:=he;have CR:¬fn.body=none:=by intro hn;rw[hn]at h2;cases h2
  have Dv:¬fn.name= "runtime.NumGoroutine" :=by simpa using h3
  simp[execOp,ho,resolve,Deferred.ofValue,hρ,invoke,callFunc,h1,CR,Dv]
theorem YJ{L:LM}{w:World}{M:Nat→Prop}{o:Oper}{ev:Operand→AV}{ρ:Operand→Value}{f:FuncId}{args:Array Operand}{DV:Array TypeId}(ho:o.op= .call ⟨.value (.func f),args,DV⟩)
    (AZ:∀x∈o.op.operands,R L w M (ev x) (ρ x)):GU L w M (args.toList.map ev) (args.map ρ):=by
  refine⟨by simp,?_⟩;intro k x hk;simp only[List.getElem?_map,Option.map_eq_some_iff,Array.getElem?_toList]at hk;obtain⟨y,h1,h2⟩:=hk;have hm:y∈o.op.operands:=by
    rw[ho];simp only[Op.operands,Call.operands,Array.mem_append];exact .inr (Array.mem_of_getElem? h1)
  have:=AZ y hm;rw[←h2];simpa[h1]using this
theorem R.gQ{L:LM}{w:World}{M:Nat→Prop}{f:Nat}{cs:List AV}{u:Value}(h:R L w M (.f f cs) u):∃us,u= .func (.func f) #[] us∧GU L w M cs us:=by
  cases h with
  |f _ _ us hs hr=>exact⟨us,rfl,hs,hr⟩
theorem R.Dw{L:LM}{w:World}{M:Nat→Prop}{f:Nat}{u:Value}(h:R L w M (.f f []) u):u= .func (.func f) #[] #[]:=by
  obtain⟨us,h1,h2,_⟩:=h.gQ;have:us=#[]:=by simpa using h2
  rw[h1,this]
theorem GU.append{L:LM}{w:World}{M:Nat→Prop}{xs cs:List AV}{us vs:Array Value}(h1:GU L w M xs us)(h2:GU L w M cs vs):GU L w M (xs++cs) (us++vs):=by
  refine⟨by simp[h1.1,h2.1],?_⟩;intro k x hk;rw[List.getElem?_append]at hk;rw[Array.getD_eq_getD_getElem?,Array.getElem?_append];split at hk
  · rename_i BW;rw[if_pos (by rw[h1.1];exact BW)];have:=h1.2 k x hk;rwa [Array.getD_eq_getD_getElem?]at this
  rename_i BW;rw[if_neg (by rw[h1.1];exact BW),h1.1];have:=h2.2 _ x hk;rwa [Array.getD_eq_getD_getElem?]at this
theorem OG{P:Program}{f:FuncId}(he:Mf P f){o:Oper}{ρ:Operand→Value}{x:Operand}{args:Array Operand}{DV:Array TypeId}{us:Array Value}(ho:o.op= .call ⟨.value x,args,DV⟩)(hρ:ρ x= .func (.func f) #[] us)(w:World):
    (execOp ρ o).run P w= .ok (.enter f (args.map ρ++us)) w:=by
  obtain⟨fn,h1,h2,h3⟩:=he;have CR:¬fn.body=none:=by intro hn;rw[hn]at h2;cases h2
  have Dv:¬fn.name= "runtime.NumGoroutine" :=by simpa using h3
  simp[execOp,ho,resolve,Deferred.ofValue,hρ,invoke,callFunc,h1,CR,Dv]
theorem U5{L:LM}{w:World}{M:Nat→Prop}{o:Oper}{ev:Operand→AV}{ρ:Operand→Value}{x:Operand}{args:Array Operand}{DV:Array TypeId}(ho:o.op= .call ⟨.value x,args,DV⟩)
    (AZ:∀x∈o.op.operands,R L w M (ev x) (ρ x)):GU L w M (args.toList.map ev) (args.map ρ):=by
  refine⟨by simp,?_⟩;intro k x hk;simp only[List.getElem?_map,Option.map_eq_some_iff,Array.getElem?_toList]at hk;obtain⟨y,h1,h2⟩:=hk;have hm:y∈o.op.operands:=by
    rw[ho];simp only[Op.operands,Call.operands,Array.mem_append];exact .inr (Array.mem_of_getElem? h1)
  have:=AZ y hm;rw[←h2];simpa[h1]using this
theorem R.Nz{L:LM}{w:World}{M:Nat→Prop}{x u:Value}(h:R L w M (.c x) u):u=x:=by cases h;rfl
inductive Tg:Prop→Type
  |mk (p:Prop):Tg p
structure C9(x want:Bool)(yes no:Prop)(a:Tg yes)(b:Tg no):Prop where
  y:x=want→yes
  n:x=(!want)→no
structure aJ(z:Bool)(yes no:Prop)(a:Tg yes)(b:Tg no):Prop where
  y:z=true→yes
  n:z=false→no
theorem gB1{y n:Prop}{a:Tg y}{b:Tg n}:C9 true true y n a b=y:=propext ⟨fun h=>h.1 rfl,fun h=>⟨fun _=>h,(fun e=>by cases e)⟩⟩
theorem gB2{y n:Prop}{a:Tg y}{b:Tg n}:C9 false false y n a b=y:=propext ⟨fun h=>h.1 rfl,fun h=>⟨fun _=>h,(fun e=>by cases e)⟩⟩
theorem gB3{y n:Prop}{a:Tg y}{b:Tg n}:C9 true false y n a b=n:=propext ⟨fun h=>h.2 rfl,fun h=>⟨(fun e=>by cases e),fun _=>h⟩⟩
theorem gB4{y n:Prop}{a:Tg y}{b:Tg n}:C9 false true y n a b=n:=propext ⟨fun h=>h.2 rfl,fun h=>⟨(fun e=>by cases e),fun _=>h⟩⟩
theorem pB1{y n:Prop}{a:Tg y}{b:Tg n}:aJ true y n a b=y:=propext ⟨fun h=>h.1 rfl,fun h=>⟨fun _=>h,(fun e=>by cases e)⟩⟩
theorem pB2{y n:Prop}{a:Tg y}{b:Tg n}:aJ false y n a b=n:=propext ⟨fun h=>h.2 rfl,fun h=>⟨(fun e=>by cases e),fun _=>h⟩⟩
theorem C9.mk'{x want:Bool}{yes no:Prop}{a:Tg yes}{b:Tg no}(y:x=want→yes)(n:x=(!want)→no):C9 x want yes no a b:=⟨y,n⟩
def Oa(fn:Fn)(first:List Operand)(cs:List AV)(k:AV→Prop):Prop:=match fn,first with
  | .func f,[]=>k (.f f cs)
  |_,_=>False
def vH(v:AV)(k:Nat→List AV→Prop):Prop:=match v with
  | .f f cs=>k f cs
  |_=>False
def NG(Γ:BV)(P:Program)(op:Op)(t:List AV)(H:HP)(id:Nat)(k:AV→Option (List AV)→Prop):Prop:=
  match op with
  | .move x=>k (BK t x) none
  | .assign x=>k (BK t x) none
  | .pick c a b=>match BK t c with
    | .b z=>aJ z (k (BK t a) none) (k (BK t b) none) (.mk _) (.mk _)
    |_=>False
  | .binOp op ty x y _=>Lu Γ op ty (BK t x) (BK t y) fun r=>k r none
  | .unOp op _ x=>Lv op (BK t x) fun r=>k r none
  | .convert src dst x=>Lw Γ src dst (BK t x) fun r=>k r none
  | .load ty x=>uP Γ H ty (BK t x) fun r=>k r none
  | .fieldAddr ty x f=>Lx Γ ty f fun off=>dP (BK t x) off fun r=>k r none
  | .indexAddr ty x i=>Ly Γ ty (BK t x) (BK t i) fun r=>k r none
  | .slice ty x lo hi none=>Mb Γ ty (BK t x) (lo.map (BK t)) (hi.map (BK t)) fun r=>k r none
  | .extract x n=>Lz (BK t x) n fun r=>k r none
  | .field ty x f=>nF Γ ty (BK t x) f fun r=>k r none
  | .nilCheck x=>Ma (BK t x) fun r=>k r none
  | .index ty x i=>YH Γ ty (BK t x) (BK t i) fun r=>k r none
  | .build ty parts=>kV Γ ty (parts.toList.map fun (i,x)=>(i,BK t x)) fun r=>k r none
  | .buildSlice ty len parts=>WI Γ ty len (parts.toList.map fun (i,x)=>(i,BK t x)) id k
  | .makeSlice ty x y=>nM Γ ty (BK t x) (BK t y) id k
  | .alloc ty=>match Γ ty with
    |some e=>k (.q id 0) (some (I7 e))
    |none=>False
  | .box ty x=>TZ (BK t x)=true∧k (.q id 0) (some (BZ (BK t x)))
  | .call ⟨.builtin .len,args,DV⟩=>match args.toList,DV.toList with
    |[x],ty::_=>PC Γ ty (BK t x) fun r=>k r none
    |_,_=>False
  | .call ⟨.builtin .cap,args,DV⟩=>match args.toList,DV.toList with
    |[x],ty::_=>gH Γ ty (BK t x) fun r=>k r none
    |_,_=>False
  | .call ⟨.builtin .max,args,_⟩=>match args.toList with
    |[x,y]=>uR (BK t x) (BK t y) fun r=>k r none
    |_=>False
  | .call ⟨.builtin .min,args,_⟩=>match args.toList with
    |[x,y]=>uQ (BK t x) (BK t y) fun r=>k r none
    |_=>False
  | .call ⟨.value (.func f),args,_⟩=>ex2 (fun r=>RC P f H (args.toList.map (BK t)) r) fun r=>k r none
  | .call ⟨.value (.tmp n),args,_⟩=>vH (BK t (.tmp n)) fun f cs=>ex2 (fun r=>RC P f H (args.toList.map (BK t)++cs) r) fun r=>k r none
  | .makeFunc fn first cap=>Oa fn first.toList (cap.toList.map (BK t)) fun r=>k r none
  |_=>False
def KB:Op→Bool
  | .alloc _| .box .. | .makeSlice .. | .buildSlice .. =>true
  |_=>false
theorem T7{P:Program}{Γ:BV}(hG:GJ P Γ){o:Oper}{t:List AV}{H:HP}{id:Nat}{k:AV→Option (List AV)→Prop}(h:NG Γ P o.op t H id k):∃r d,k r d∧E5 P o (BK t) H id r d∧(KB o.op=false→d=none):=by
  have val:∀x,(∀ρ:Operand→Value,∀w,(execOp ρ o).run P w= .ok (.value (ρ x)) w)→x∈o.op.operands→E5 P o (BK t) H id (BK t x) none:=
    fun x hx hm=>E5.pure fun H' hH L Av w ρ hs AZ=>⟨ρ x,hx ρ w,AZ x hm⟩
  have lift:∀{K:AV→Prop},(∃r,K r∧E5 P o (BK t) H id r none)→(∀r,K r→k r none)→∃r d,k r d∧E5 P o (BK t) H id r d∧(KB o.op=false→d=none):=
    fun ⟨r,h1,h2⟩ h3=>⟨r,none,h3 r h1,h2,fun _=>rfl⟩
  cases ho:o.op<;>rw[ho]at h lift<;>simp only[NG]at h
  case move x=>exact⟨_,_,h,val x (fun ρ w=>by simp[execOp,ho]) (by simp[ho,Op.operands]),fun _=>rfl⟩
  case assign x=>exact⟨_,_,h,val x (fun ρ w=>by simp[execOp,ho]) (by simp[ho,Op.operands]),fun _=>rfl⟩
  case pick c a b=>
    split at h
    · rename_i z hz;cases z with
      | true=>
        refine⟨_,_,h.1 rfl,E5.pure fun H' hH L Av w ρ hs AZ=>⟨ρ a,?_,AZ a (by simp[ho,Op.operands])⟩,fun _=>rfl⟩;have hc:=AZ c (by simp[ho,Op.operands]);rw[hz]at hc;simp[execOp,ho,hc.RT,asBool]
      | false=>
        refine⟨_,_,h.2 rfl,E5.pure fun H' hH L Av w ρ hs AZ=>⟨ρ b,?_,AZ b (by simp[ho,Op.operands])⟩,fun _=>rfl⟩;have hc:=AZ c (by simp[ho,Op.operands]);rw[hz]at hc;simp[execOp,ho,hc.RT,asBool]
    exact h.elim
  case binOp op ty x y Yb=>
    obtain⟨r,h1,h2⟩:=gI hG h x y;refine⟨r,none,h1,E5.pure fun H' hH L Av w ρ hs AZ=>?_,fun _=>rfl⟩;obtain⟨z,h3,h4⟩:=h2 L w _ _ _ (AZ x (by simp[ho,Op.operands])) (AZ y (by simp[ho,Op.operands]));exact⟨z,by simp only[execOp,ho,Sem.run_bind,Sem.run_pure]at h3 ⊢;rw[h3];rfl,h4⟩
  case unOp op ty x=>
    obtain⟨r,h1,h2⟩:=uT (P:=P) h;refine⟨r,none,h1,E5.pure fun H' hH L Av w ρ hs AZ=>?_,fun _=>rfl⟩;obtain⟨z,h3,h4⟩:=h2 L w _ _ (AZ x (by simp[ho,Op.operands]));exact⟨z,by simp[execOp,ho,h3],h4⟩
  case convert s d x=>
    obtain⟨r,h1,h2⟩:=gJ hG h;refine⟨r,none,h1,E5.pure fun H' hH L Av w ρ hs AZ=>?_,fun _=>rfl⟩;obtain⟨z,h3,h4⟩:=h2 L w _ _ (AZ x (by simp[ho,Op.operands]));exact⟨z,by simp[execOp,ho,h3],h4⟩
  case load ty x=>exact lift (De hG ho h) (fun _ h=>h)
  case fieldAddr ty x f=>exact lift (Df hG ho h) (fun _ h=>h)
  case indexAddr ty x i=>exact lift (Dh hG ho h) (fun _ h=>h)
  case slice ty x lo hi mx=>
    cases mx with
    |none=>exact lift (Dl hG ho h) (fun _ h=>h)
    |some _=>exact h.elim
  case extract x n=>exact lift (Di ho h) (fun _ h=>h)
  case field ty x f=>exact lift (uV hG ho h) (fun _ h=>h)
  case index ty x i=>exact lift (Dj hG ho h) (fun _ h=>h)
  case nilCheck x=>exact lift (Dk ho h) (fun _ h=>h)
  case build ty parts=>exact lift (vA hG ho h) (fun _ h=>h)
  case buildSlice ty len parts=>obtain⟨r,d,h1,h2⟩:=v9 hG ho h;exact⟨r,d,h1,h2,fun h=>by cases h⟩
  case makeSlice ty x y=>obtain⟨r,d,h1,h2⟩:=v8 hG ho h;exact⟨r,d,h1,h2,fun h=>by cases h⟩
  case alloc ty=>
    split at h
    · rename_i e he;exact⟨_,_,h,nL hG ho he,fun h=>by cases h⟩
    exact h.elim
  case box ty x=>exact⟨_,_,h.2,Dn ho h.1,fun h=>by cases h⟩
  case makeFunc fn first cap=>
    unfold Oa at h;split at h
    · rename_i f Dx;refine⟨_,none,h,E5.pure fun H' hH L Av w ρ hs AZ=>?_,fun _=>rfl⟩;have h0:first=#[]:=by apply Array.ext';simpa using Dx
      subst h0;refine⟨.func (.func f) #[] (cap.map ρ),by simp[execOp,ho,Instr.makeFunc],.f _ _ _ (by simp) ?_⟩;intro k x hk;simp only[List.getElem?_map,Option.map_eq_some_iff,Array.getElem?_toList]at hk;obtain⟨y,h1,h2⟩:=hk;have hm:y∈o.op.operands:=by
        rw[ho];simp only[Op.operands,Array.mem_append];exact .inr (Array.mem_of_getElem? h1)
      have:=AZ y hm;rw[←h2];simpa[h1]using this
    exact h.elim
  case call c=>
    obtain⟨callee,args,DV⟩:=c;cases callee with
    | builtin b=>
      cases b<;>simp only at h<;>try exact h.elim
      · split at h
        · rename_i x ty tl ha ZY;have QR:args=#[x]:=by apply Array.ext';simpa using ha
          subst QR;have dR:DV[0]? =some ty:=by rw[←Array.getElem?_toList,ZY];rfl
          exact lift (nJ hG ho dR h) (fun _ h=>h)
        exact h.elim
      split at h
      · rename_i x ty tl ha ZY;have QR:args=#[x]:=by apply Array.ext';simpa using ha
        subst QR;have dR:DV[0]? =some ty:=by rw[←Array.getElem?_toList,ZY];rfl
        exact lift (nI hG ho dR h) (fun _ h=>h)
      · exact h.elim
      split at h
      · rename_i x y ha;have QR:args=#[x,y]:=by apply Array.ext';simpa using ha
        subst QR;exact lift (uW ho h) (fun _ h=>h)
      · exact h.elim
      split at h
      · rename_i x y ha;have QR:args=#[x,y]:=by apply Array.ext';simpa using ha
        subst QR;exact lift (uX ho h) (fun _ h=>h)
      exact h.elim
    |invoke r m=>exact h.elim
    | value fo=>
      cases fo<;>simp only at h<;>try exact h.elim
      · rename_i n;unfold vH at h;split at h
        · rename_i f cs hv;obtain⟨r,hr,hk⟩:=h;refine⟨r,none,hk,?_,fun _=>rfl⟩;intro H' hH L Av w ρ hs ZW hL hi AZ;obtain⟨he,DE⟩:=hr.run hH;have hx:=AZ (.tmp n) (by rw[ho];simp[Op.operands,Call.operands]);rw[hv]at hx;obtain⟨us,hf,Aw⟩:=hx.gQ;have h1:=OG he ho hf w;have h2:=DE L Av w _ hs ZW ((U5 ho AZ).append Aw);unfold QV;rw[h1];exact h2.mono fun e w' ⟨u,h3,h4,h5,h6⟩=>⟨u,h3,r,H',L,⟨rfl,rfl⟩,fun _ _=>rfl,h4,h5,h6⟩
        exact h.elim
      rename_i f;obtain⟨r,hr,hk⟩:=h;refine⟨r,none,hk,?_,fun _=>rfl⟩;intro H' hH L Av w ρ hs ZW hL hi AZ;obtain⟨he,DE⟩:=hr.run hH;have hf:ρ (.func f)= .func (.func f) #[] #[]:=(AZ (.func f) (by rw[ho];simp[Op.operands,Call.operands])).Dw;have h1:=QW he ho hf w;have h2:=DE L Av w _ hs ZW (YJ ho AZ);unfold QV;rw[h1];exact h2.mono fun e w' ⟨u,h3,h4,h5,h6⟩=>⟨u,h3,r,H',L,⟨rfl,rfl⟩,fun _ _=>rfl,h4,h5,h6⟩
theorem nW{P:Program}{Γ:BV}(hG:GJ P Γ){o:Oper}{t:List AV}{H:HP}{id:Nat}{k:AV→Option (List AV)→Prop}(h:NG Γ P o.op t H id k):∃r d,k r d∧E5 P o (BK t) H id r d:=
  let ⟨r,d,h1,h2,_⟩:=T7 hG h
  ⟨r,d,h1,h2⟩
end Go.Proofs.YtghmeeifjeafmaaGreat
