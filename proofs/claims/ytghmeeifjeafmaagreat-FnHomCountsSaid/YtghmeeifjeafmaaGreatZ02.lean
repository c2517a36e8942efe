import Derived.Test.YtghmeeifjeafmaaGreatZ01
set_option linter.unusedVariables false
set_option linter.unusedSimpArgs false
namespace Go.Proofs.YtghmeeifjeafmaaGreat
theorem setRow_eq (w:World) (g:Nat) (old cs:Array Value) (t:TypeId) (fr:Nat×Nat) (hg:w.heap[g]? =some (.cells old t fr)):w.setRow g cs=setBlk w g (.cells cs t fr):=by
  have hlt:=getElem?_lt hg
  unfold World.setRow setBlk
  congr 1
  apply Array.ext
  · simp
  intro i h1 h2
  rw[Array.getElem_modify,Array.getElem_setIfInBounds]
  · split
    · rename_i h;subst h
      have:w.heap[g]= .cells old t fr:=by rw[Array.getElem?_eq_getElem hlt]at hg;simpa using hg
      simp[this]
    rfl
theorem run_stores {P:Program} {w:World} {g o:Nat} {cur:Array Value} {t:TypeId} (vs:List Value) (hg:w.heap[g]? =some (.cells cur t (0,0))) (hf:o+vs.length≤cur.size) (h1:∀v∈vs,v.oneCell'=true):
    (storeCells ⟨g,o,none⟩ vs).run P w= .ok () (setBlk w g (.cells (cur.toList.take o++vs++cur.toList.drop (o+vs.length)).toArray t (0,0))):=by
  have h:=run_storeCells_at P g o t vs 0 cur w hg (by simpa using hf) h1
  rw[setRow_eq w g cur _ t _ hg]at h
  simpa using h
theorem splice_get {α:Type} (cur:Array α) (o:Nat) (vs:List α) (h:o+vs.length≤cur.size) (k:Nat):
    (cur.toList.take o++vs++cur.toList.drop (o+vs.length)).toArray[k]? =if o≤k∧k<o+vs.length then vs[k-o]? else cur[k]? :=by
  simp only[List.getElem?_toArray]
  rw[List.append_assoc,List.getElem?_append]
  have hl:(cur.toList.take o).length=o:=by simp;omega
  rw[hl]
  split
  · rename_i hk
    rw[if_neg (by omega),List.getElem?_take,if_pos hk];simp
  rename_i hk
  rw[List.getElem?_append]
  split
  · rename_i hk2
    rw[if_pos ⟨by omega,by omega⟩]
  rename_i hk2
  rw[if_neg (by omega),List.getElem?_drop]
  rw[show o+vs.length+(k-o-vs.length)=k by omega];simp
def splice (cs:List AV) (o:Nat) (xs:List AV):List AV:=cs.take o++xs++cs.drop (o+xs.length)
theorem splice_len {cs:List AV} {o:Nat} {xs:List AV} (h:o+xs.length≤cs.length):(splice cs o xs).length=cs.length:=by
  simp[splice];omega
theorem splice_getE (cs:List AV) (o:Nat) (xs:List AV) (h:o+xs.length≤cs.length) (k:Nat):
    (splice cs o xs)[k]? =if o≤k∧k<o+xs.length then xs[k-o]? else cs[k]? :=by
  unfold splice
  rw[List.append_assoc,List.getElem?_append]
  have hl:(cs.take o).length=o:=by simp;omega
  rw[hl]
  split
  · rename_i hk
    rw[if_neg (by omega),List.getElem?_take,if_pos hk]
  rename_i hk
  rw[List.getElem?_append]
  split
  · rename_i hk2
    rw[if_pos ⟨by omega,by omega⟩]
  rename_i hk2
  rw[if_neg (by omega),List.getElem?_drop]
  rw[show o+xs.length+(k-o-xs.length)=k by omega]
section
variable {P:Program} {Γ:TEnv} {o:Oper} {ev:Operand→AV} {H:HP} {id:Nat}
def stop (Γ:TEnv) (H:HP) (ty:TypeId) (x y:AV) (k:AV→HP→Prop):Prop:=
  match Γ ty,x with
  |some e,.q i off=>ex1 (H i) fun cs=>okA y=true∧(cellsA y).length=e.size∧off+e.size≤cs.length∧k .j (upd H i (some (splice cs off (cellsA y))))
  |_,_=>False
theorem stop_ok (hG:GOk P Γ) {ty:TypeId} {x y:Operand} (ho:o.op= .store ty x y) {k:AV→HP→Prop} (h:stop Γ H ty (ev x) (ev y) k):OpS P o ev H id k:=by
  unfold stop at h
  split at h
  · rename_i e i off he hx
    obtain⟨cs,hcs,h1,h2,h3,h⟩:=h
    intro L Av w ρ hs hfn hL hi hops
    have hu:=hops x (by rw[ho];simp[Op.operands])
    have hv:=hops y (by rw[ho];simp[Op.operands])
    rw[hx]at hu
    obtain⟨l,⟨hl,h0⟩,e1⟩:=hu.q_inv
    obtain⟨l',hl',hnd⟩:=hs.node i cs hcs
    rw[hl]at hl';cases hl'
    obtain⟨arr,et,e2,e3,e4,e5⟩:=hnd.ex h0
    obtain⟨e6,e7⟩:=okA_cells hv h1
    have e8:=(hG ty e he).run_size w
    have hlen:(ρ y).cells.toList.length=e.size:=by simp[e6,h2]
    have hone:∀v∈(ρ y).cells.toList,v.oneCell'=true:=by
      intro v hv
      obtain⟨j,hj,hjv⟩:=List.getElem_of_mem hv
      have hj':j<(cellsA (ev y)).length:=by rw[←e6];simpa using hj
      obtain⟨c,e9,_,e10⟩:=e7 j _ (List.getElem?_eq_getElem hj')
      have:c=v:=by
        rw[←hjv]
        have:(ρ y).cells.toList[j]? =some c:=by simpa using e9
        rw[List.getElem?_eq_getElem hj]at this
        exact(Option.some.inj this).symm
      rw[←this];exact e10
    have e11:=run_stores (P:=P) (w:=w) (g:=l.blk) (o:=l.off+off) (ρ y).cells.toList e2 (by rw[hlen];omega) hone
    obtain⟨e12,e13⟩:=move_step hs hcs hl (.inl ⟨rfl,rfl⟩) rfl h0 (arr.toList.take (l.off+off)++(ρ y).cells.toList++arr.toList.drop (l.off+off+(ρ y).cells.toList.length)).toArray et (splice cs off (cellsA (ev y))) (by simp;omega) (by rw[splice_len (by omega)];exact e4) (by
      intro k x hk
      rw[splice_getE cs off _ (by omega)]at hk
      rw[splice_get arr _ _ (by rw[hlen];omega),hlen]
      split at hk
      · rename_i hc
        rw[if_pos ⟨by omega,by omega⟩]
        obtain⟨c,e14,e15,_⟩:=e7 (k-off) x hk
        exact⟨c,by rw[show l.off+k-(l.off+off)=k-off by omega];simpa using e14,e15⟩
      rename_i hc
      rw[if_neg (by omega)]
      exact e5 k x hk)
    rw[updL_id L hl,upd_upd]at e12 e13
    refine .of_skip ?_ ⟨_,_,L,h,fun _ _=>rfl,e12,e13,.j _⟩
    have a1:¬((ρ y).cells.size≠e.size):=by rw[e6,h2];simp
    simp only[execOp,ho,e1,Instr.storeAt,Instr.sureAddr,Sem.run_bind,Sem.run_pure,Result.andThen_ok,storeVar,e8]
    simp only[e6,h2];simp[e11]
  exact h.elim
def vw (H:HP):AV→Option (List AV)
  | .v n cs=>if cs.length=n then some cs else none
  | .h i off n=>match H i with
    |some cs=>if off+n≤cs.length then some ((cs.drop off).take n)else none
    |none=>none
  | .nl=>some []
  |_=>none
theorem vw_run {L:LM} {Av:Nat→Prop} {w:World} (hs:SR L H Av w) {x:AV} {u:Value} (hu:R L w (MM L H Av) x u) {xs:List AV} (hx:vw H x=some xs):
    ∃a n cp,u= .slice a n cp∧n=xs.length∧∃us:List Value,us.length=xs.length∧(∀w':World,w'.heap=w.heap→(Builtin.firstCells 1 n u).run P w'= .ok us.toArray w')∧∀(k:Nat) (y:AV),xs[k]? =some y→∃c,us[k]? =some c∧R L w (MM L H Av) y c:=by
  unfold vw at hx
  split at hx
  · rename_i n cs
    split at hx
    · rename_i hlen
      cases hx
      cases hu with
      | v0 a cp=>
        refine⟨a,0,cp,rfl,rfl,[],rfl,?_,by simp⟩
        intro w' _
        cases a<;>simp[Builtin.firstCells,loadCells,loadCellsFrom]
      | v _ _ b off cp arr e f us hM hb hn hu hr=>
        refine⟨_,n,cp,rfl,hlen.symm,(List.range' 0 n).map us,by simp[hlen],?_,?_⟩
        · intro w' hw'
          have:=run_loadCells (P:=P) (w:=w') (b:=b) (off:=off) (us:=us) n 0 #[] (fun k hk=>by
            rw[Nat.zero_add];exact cell_of (by rw[hw'];exact hb) (hu k (by omega)))
          simp[Builtin.firstCells,loadCells,this]
        intro k y hk
        have hlt:=(List.getElem?_eq_some_iff.1 hk).1
        exact⟨us k,by simp[show k<n by omega],hr k y hk⟩
    cases hx
  · rename_i i off n
    split at hx
    · rename_i cs hcs
      split at hx
      · rename_i hlen
        cases hx
        obtain⟨l,hl,hnd⟩:=hs.node i cs hcs
        cases hu with
        | h _ _ _ l' a cp hl' hn hc ha h0=>
          rw[hl]at hl';cases hl'
          obtain⟨arr,et,e2,e3,e4,e5⟩:=hnd.ex h0
          let us:Nat→Value:=fun j=>arr.getD (l.off+off+j) undef
          have hcell:∀j,j<n→∃u,arr[l.off+off+j]? =some u∧R L w (MM L H Av) (cs.getD (off+j) .j) u:=by
            intro j hj
            have hlt:off+j<cs.length:=by omega
            obtain⟨u,h3,h4⟩:=e5 (off+j) cs[off+j] (List.getElem?_eq_getElem hlt)
            exact⟨u,by rw[Nat.add_assoc];exact h3,by simpa[hlt]using h4⟩
          refine⟨_,n,cp,rfl,by simp;omega,(List.range' 0 n).map us,by simp;omega,?_,?_⟩
          · intro w' hw'
            by_cases hn0:n=0
            · subst hn0;simp[Builtin.firstCells,loadCells,loadCellsFrom]
            have ha':=ha.resolve_left (by omega)
            have:=run_loadCells (P:=P) (w:=w') (b:=l.blk) (off:=l.off+off) (us:=us) n 0 #[] (fun k hk=>by
              rw[Nat.zero_add]
              obtain⟨u,h6,_⟩:=hcell k hk
              exact cell_of (by rw[hw'];exact e2) (by rw[h6];simp[us,h6]))
            simp[Builtin.firstCells,loadCells,ha',this]
          intro k y hk
          simp only[List.getElem?_take,List.getElem?_drop]at hk
          split at hk
          · rename_i hkn
            obtain⟨u,h6,h7⟩:=hcell k hkn
            refine⟨u,by simp[hkn,us,h6],?_⟩
            rw[show cs.getD (off+k) .j=y by simp[hk]]at h7
            exact h7
          cases hk
      cases hx
    cases hx
  · cases hx
    rw[hu.nl_inv]
    exact⟨none,0,0,rfl,rfl,[],rfl,by intro w' _;simp[Builtin.firstCells],by simp⟩
  cases hx
def apst (H:HP) (x:AV) (xs:List AV) (id:Nat) (k:AV→HP→Prop):Prop:=
  match x with
  | .nl=>(xs=[]→k .nl H)∧(xs≠ []→k (.h id 0 xs.length) (upd H id (some xs)))
  | .h i off n=>ex1 (H i) fun cs=>off+n≤cs.length∧k (.h id 0 (n+xs.length)) (upd (upd H i none) id (some ((cs.drop off).take n++xs)))
  |_=>False
def lenA:AV→Nat
  | .h _ _ n=>n
  |_=>0
def isIntT:TypeDesc→Bool
  | .int _=>true
  |_=>false
def isIntD:TD→Bool
  | .int _=>true
  |_=>false
theorem isInt_of {d:TypeDesc}:isIntT d=isIntD (tdOf d):=by cases d<;>rfl
def vwS (sz:Nat) (H:HP):AV→Option (Nat×List AV)
  | .v n cs=>if cs.length=n*sz then some (n,cs)else none
  | .hs s i off n=>if s=sz then (match H i with
    |some cs=>if off+n*sz≤cs.length then some (n,(cs.drop off).take (n*sz))else none
    |none=>none)else none
  | .nl=>some (0,[])
  |_=>none
def apstS (sz:Nat) (H:HP) (x:AV) (m:Nat) (xs:List AV) (id:Nat) (k:AV→HP→Prop):Prop:=
  match x with
  | .nl=>(m=0→k .nl H)∧(m≠0→k (.hs sz id 0 m) (upd H id (some xs)))
  | .hs s i off n=>s=sz∧ex1 (H i) fun cs=>off+n*sz≤cs.length∧k (.hs sz id 0 (n+m)) (upd (upd H i none) id (some ((cs.drop off).take (n*sz)++xs)))
  |_=>False
def lenS:AV→Nat
  | .hs _ _ _ n=>n
  |_=>0
def apop (Γ:TEnv) (H:HP) (t1 t2:TypeId) (x y:AV) (id:Nat) (k:AV→HP→Prop):Prop:=
  match Γ t1,Γ t2 with
  | some e1,some e2=>match e1.d with
    | .slice el=>match Γ el with
      | some ee=>ifS (ee.size==1) (ee.zero.cells.size=1∧(match y with
        | .i _ n=>isIntD e2.d=true∧0≤n∧n≤9223372036854775807∧(lenA x+n.toNat)*ee.bytes≤140737488355328∧(lenA x+n.toNat≤9223372036854775807)∧one (ofV1 (ee.zero.cells.getD 0 undef))=true∧apst H x (List.replicate n.toNat (ofV1 (ee.zero.cells.getD 0 undef))) id k
        |_=>isIntD e2.d=false∧ex1 (vw H y) fun xs=>(∀z∈xs,one z=true)∧(lenA x+xs.length)*ee.bytes≤140737488355328∧(lenA x+xs.length≤9223372036854775807)∧apst H x xs id k))
        (isIntD e2.d=false∧ee.zero.cells.size=ee.size∧ex1 (vwS ee.size H y) fun m=>(∀z∈m.2,one z=true)∧(lenS x+m.1)*ee.bytes≤140737488355328∧(lenS x+m.1≤9223372036854775807)∧apstS ee.size H x m.1 m.2 id k)
      |none=>False
    |_=>False
  |_,_=>False
theorem vw_runS {P:Program} {sz:Nat} {L:LM} {H:HP} {Av:Nat→Prop} {w:World} (hs:SR L H Av w) {x:AV} {u:Value} (hu:R L w (MM L H Av) x u) {m:Nat} {xs:List AV} (hx:vwS sz H x=some (m,xs)):
    ∃a cp,u= .slice a m cp∧xs.length=m*sz∧∃us:List Value,us.length=xs.length∧(∀w':World,w'.heap=w.heap→(Builtin.firstCells sz m u).run P w'= .ok us.toArray w')∧∀(k:Nat) (y:AV),xs[k]? =some y→∃c,us[k]? =some c∧R L w (MM L H Av) y c:=by
  unfold vwS at hx
  split at hx
  · rename_i n cs
    split at hx
    · rename_i hlen
      cases hx
      cases hu with
      | v0 a cp=>
        refine⟨a,cp,rfl,by simp,[],rfl,?_,by simp⟩
        intro w' _
        cases a<;>simp[Builtin.firstCells,loadCells,loadCellsFrom]
      | v _ _ b off cp arr e f us hM hb hn hu hr=>
        refine⟨_,cp,rfl,hlen,(List.range' 0 (m*sz)).map us,by simp[hlen],?_,?_⟩
        · intro w' hw'
          have:=run_loadCells (P:=P) (w:=w') (b:=b) (off:=off) (us:=us) (m*sz) 0 #[] (fun k hk=>by
            rw[Nat.zero_add];exact cell_of (by rw[hw'];exact hb) (hu k (by omega)))
          simp[Builtin.firstCells,loadCells,this]
        intro k y hk
        have hlt:=(List.getElem?_eq_some_iff.1 hk).1
        exact⟨us k,by simp[show k<m*sz by omega],hr k y hk⟩
    cases hx
  · rename_i s i off n
    split at hx
    · rename_i hss
      subst hss
      split at hx
      · rename_i cs hcs
        split at hx
        · rename_i hlen
          cases hx
          obtain⟨l,hl,hnd⟩:=hs.node i cs hcs
          cases hu with
          | hs _ _ _ _ l' a cp hl' hn hc ha h0=>
            rw[hl]at hl';cases hl'
            obtain⟨arr,et,e2,e3,e4,e5⟩:=hnd.ex h0
            let us:Nat→Value:=fun j=>arr.getD (l.off+off+j) undef
            have hcell:∀j,j<m*s→∃u,arr[l.off+off+j]? =some u∧R L w (MM L H Av) (cs.getD (off+j) .j) u:=by
              intro j hj
              have hlt:off+j<cs.length:=by omega
              obtain⟨u,h3,h4⟩:=e5 (off+j) cs[off+j] (List.getElem?_eq_getElem hlt)
              exact⟨u,by rw[Nat.add_assoc];exact h3,by simpa[hlt]using h4⟩
            refine⟨_,cp,rfl,by simp;omega,(List.range' 0 (m*s)).map us,by simp;omega,?_,?_⟩
            · intro w' hw'
              by_cases hn0:m*s=0
              · simp[Builtin.firstCells,loadCells,hn0,loadCellsFrom]
              have ha':=ha.resolve_left (by
                rintro rfl
                have:m=0:=by omega
                subst this
                simp at hn0)
              have:=run_loadCells (P:=P) (w:=w') (b:=l.blk) (off:=l.off+off) (us:=us) (m*s) 0 #[] (fun k hk=>by
                rw[Nat.zero_add]
                obtain⟨u,h6,_⟩:=hcell k hk
                exact cell_of (by rw[hw'];exact e2) (by rw[h6];simp[us,h6]))
              simp[Builtin.firstCells,loadCells,ha',this]
            intro k y hk
            simp only[List.getElem?_take,List.getElem?_drop]at hk
            split at hk
            · rename_i hkn
              obtain⟨u,h6,h7⟩:=hcell k hkn
              refine⟨u,by simp[hkn,us,h6],?_⟩
              rw[show cs.getD (off+k) .j=y by simp[hk]]at h7
              exact h7
            cases hk
        cases hx
      cases hx
    cases hx
  · cases hx
    rw[hu.nl_inv]
    exact⟨none,0,rfl,by simp,[],rfl,by intro w' _;simp[Builtin.firstCells],by simp⟩
  cases hx
section
variable {tys:Array TypeId} {ty t1 t2 el:TypeId} {d2:TypeDesc} {ee:TE} {w w':World} {base:Option Addr} {sLen sCap n:Nat} {v:Value} {us:List Value}
theorem ap_room (h0:tys[0]? =some t1) (h1:tys[1]? =some t2) (und1:∀w,(underlying t1).run P w= .ok (.slice el) w) (und2:∀w,(underlying t2).run P w= .ok d2 w) (hd2:isIntT d2=false)
    (hsz:∀w,(sizeOf el).run P w= .ok 1 w) (hv:(Builtin.lenOf v).run P w= .ok n w) (hfc:(Builtin.firstCells 1 n v).run P w= .ok us.toArray w) (hroom:sLen+n≤sCap)
    (hst:(match base with|some a=>storeCells (a.add sLen) us|none=>pure ():Sem Unit).run P w= .ok () w'):
    (Builtin.append_ tys ty #[.slice base sLen sCap,v]).run P w= .ok (.slice base (sLen+n) sCap) w':=by
  cases d2<;>simp only[isIntT,reduceCtorEq]at hd2
  all_goals
    unfold Builtin.append_
    simp only[h0,h1,List.getElem?_toArray,List.getElem?_cons_zero,List.getElem?_cons_succ,Sem.run_bind,und1,und2,Result.andThen_ok,hsz,Sem.run_pure,Bool.false_eq_true,if_false,hv,hroom,if_true,Bool.not_false,hfc,Nat.mul_one]
    cases base with
    | none=>
      simp only[Sem.run_pure]at hst
      cases hst
      simp
    |some a=>simp at hst;simp[hst]
theorem ap_roomz (h0:tys[0]? =some t1) (h1:tys[1]? =some t2) (und1:∀w,(underlying t1).run P w= .ok (.slice el) w) (und2:∀w,(underlying t2).run P w= .ok d2 w) (hd2:isIntT d2=true) (hE:TOk P el ee)
    (hsz:ee.size=1) {k:IntKind} {m:Int} (hm0:0≤m) (hm1:m≤9223372036854775807) (hmb:m*ee.bytes≤281474976710656) {z:Value} (hz:ee.zero.cells=#[z]) (hroom:sLen+m.toNat≤sCap)
    (hst:(match base with|some a=>storeCells (a.add sLen) (List.replicate m.toNat z)|none=>pure ():Sem Unit).run P w= .ok () w'):
    (Builtin.append_ tys ty #[.slice base sLen sCap,.int k m]).run P w= .ok (.slice base (sLen+m.toNat) sCap) w':=by
  have hs:=fun w=>hE.run_size w
  rw[hsz]at hs
  have hzr:=fun w=>hE.run_zero w
  obtain⟨ii,h9,h10,h11,h12⟩:=hE.run_info w
  have w1:=wrap_i64 (n:=m) (by omega) (by omega)
  have a1:¬m<0:=by omega
  have a2:¬(281474976710656:Int)<m*ee.bytes:=by omega
  have hzc:∀n,Builtin.zeroCells #[z] n=(List.replicate n z).toArray:=by
    intro n
    apply Array.ext
    · simp[Builtin.zeroCells]
    intro i h1 h2
    simp[Builtin.zeroCells,Nat.mod_one]
  cases d2<;>simp only[isIntT,Bool.false_eq_true]at hd2
  unfold Builtin.append_
  simp only[h0,h1,List.getElem?_toArray,List.getElem?_cons_zero,List.getElem?_cons_succ,Sem.run_bind,und1,und2,Result.andThen_ok,hs,Sem.run_pure,if_true,asInt,asIntOf,w1,h9,h11]
  by_cases hm:m.toNat=0
  · cases base with
    | none=>
      simp only[Sem.run_pure]at hst
      cases hst
      simp[a1,a2,h9,h11,hm,show sLen≤sCap by omega]
    | some a=>
      simp[hm,storeCells]at hst
      cases hst
      simp[a1,a2,h9,h11,hm,storeCells,show sLen≤sCap by omega]
  cases base with
  | none=>
    simp only[Sem.run_pure]at hst
    cases hst
    simp[a1,a2,h9,h11,hm,hroom,hzr,hz,hzc]
  | some a=>
    simp at hst
    simp[a1,a2,h9,h11,hm,hroom,hzr,hz,hzc,hst]
theorem ap_grow (h0:tys[0]? =some t1) (h1:tys[1]? =some t2) (und1:∀w,(underlying t1).run P w= .ok (.slice el) w) (und2:∀w,(underlying t2).run P w= .ok d2 w) (hd2:isIntT d2=false) (hE:TOk P el ee)
    (hsz:ee.size=1) (hv:(Builtin.lenOf v).run P w= .ok n w) (hfc:(Builtin.firstCells 1 n v).run P w.drew= .ok us.toArray w.drew) {os:List Value} (hold:(Builtin.firstCells 1 sLen (.slice base sLen sCap)).run P w.drew= .ok os.toArray w.drew)
    (hroom:¬sLen+n≤sCap) (hneed:sLen+n≤9223372036854775807) (hb:(sLen+n)*ee.bytes≤140737488355328) (hb0:ee.bytes≠0∨sLen+n≤9223372036854775807):
    ∃cap rest,sLen+n≤cap∧(os++us).length+rest.length=(os++us).length+(cap-(sLen+n))*ee.zero.cells.size∧
    (Builtin.append_ tys ty #[.slice base sLen sCap,v]).run P w= .ok (.slice (some ⟨w.heap.size,0,none⟩) (sLen+n) cap) (w.drew.alloc (.cells (os++us++rest).toArray el (0,0))):=by
  have hs:=fun w=>hE.run_size w
  rw[hsz]at hs
  have hzr:=fun w=>hE.run_zero w
  obtain⟨ii,h9,h10,h11,h12⟩:=hE.run_info w
  obtain⟨ij,g9,g10,g11,g12⟩:=hE.run_info w.drew
  have hf:=growslice_fits (need:=sLen+n) (old:=sCap) (bytes:=ee.bytes) (by omega) hb
  have a2:¬(281474976710656<Builtin.nextslicecap (sLen+n) sCap*ee.bytes):=by omega
  have a3:¬(((sLen+n:Nat):Int)>IntKind.i64.max):=by
    have:IntKind.i64.max=9223372036854775807:=rfl
    rw[this];omega
  refine⟨(Question.appendCap (sLen+n) sCap el).cut (w.tape w.drawn (.appendCap (sLen+n) sCap el)),(Builtin.zeroCells ee.zero.cells ((Question.appendCap (sLen+n) sCap el).cut (w.tape w.drawn (.appendCap (sLen+n) sCap el))-(sLen+n))).toList,by simp[Question.cut],by simp[Builtin.zeroCells],?_⟩
  clear hb0
  cases d2<;>simp only[isIntT,reduceCtorEq]at hd2
  all_goals
    unfold Builtin.append_
    simp only[h0,h1,List.getElem?_toArray,List.getElem?_cons_zero,List.getElem?_cons_succ,Sem.run_bind,und1,und2,Result.andThen_ok,hs,Sem.run_pure,Bool.false_eq_true,if_false,hv,hroom,Bool.not_false,if_true,h9,h11]
    rw[if_neg (by intro hc;exact a3 hc.1)]
    simp only[Sem.run_bind,h9,Result.andThen_ok,h11]
    rw[if_neg (by simpa using a2)]
    simp[Question.forced,hs,g9,g11,hold,hfc,hzr,newRow]
    congr 2
    apply Array.ext'
    simp
theorem ap_growz (h0:tys[0]? =some t1) (h1:tys[1]? =some t2) (und1:∀w,(underlying t1).run P w= .ok (.slice el) w) (und2:∀w,(underlying t2).run P w= .ok d2 w) (hd2:isIntT d2=true) (hE:TOk P el ee)
    (hsz:ee.size=1) {k:IntKind} {m:Int} (hm0:0≤m) (hm1:m≤9223372036854775807) (hmb:m*ee.bytes≤281474976710656) {z:Value} (hz:ee.zero.cells=#[z]) {os:List Value} (hold:(Builtin.firstCells 1 sLen (.slice base sLen sCap)).run P w.drew= .ok os.toArray w.drew)
    (hroom:¬sLen+m.toNat≤sCap) (hneed:sLen+m.toNat≤9223372036854775807) (hb:(sLen+m.toNat)*ee.bytes≤140737488355328):
    ∃cap rest,sLen+m.toNat≤cap∧(os++List.replicate m.toNat z).length+rest.length=(os++List.replicate m.toNat z).length+(cap-(sLen+m.toNat))*ee.zero.cells.size∧
    (Builtin.append_ tys ty #[.slice base sLen sCap,.int k m]).run P w= .ok (.slice (some ⟨w.heap.size,0,none⟩) (sLen+m.toNat) cap) (w.drew.alloc (.cells (os++List.replicate m.toNat z++rest).toArray el (0,0))):=by
  have hs:=fun w=>hE.run_size w
  rw[hsz]at hs
  have hzr:=fun w=>hE.run_zero w
  obtain⟨ii,h9,h10,h11,h12⟩:=hE.run_info w
  obtain⟨ij,g9,g10,g11,g12⟩:=hE.run_info w.drew
  have hf:=growslice_fits (need:=sLen+m.toNat) (old:=sCap) (bytes:=ee.bytes) (by omega) hb
  have a0:¬m<0:=by omega
  have a1:¬(281474976710656:Int)<m*ee.bytes:=by omega
  have a2:¬(281474976710656<Builtin.nextslicecap (sLen+m.toNat) sCap*ee.bytes):=by omega
  have a3:¬(((sLen+m.toNat:Nat):Int)>IntKind.i64.max):=by
    have:IntKind.i64.max=9223372036854775807:=rfl
    rw[this];omega
  have w1:=wrap_i64 (n:=m) (by omega) (by omega)
  have hzc:∀n,Builtin.zeroCells #[z] n=(List.replicate n z).toArray:=by
    intro n
    apply Array.ext
    · simp[Builtin.zeroCells]
    intro i h1 h2
    simp[Builtin.zeroCells,Nat.mod_one]
  refine⟨(Question.appendCap (sLen+m.toNat) sCap el).cut (w.tape w.drawn (.appendCap (sLen+m.toNat) sCap el)),(Builtin.zeroCells ee.zero.cells ((Question.appendCap (sLen+m.toNat) sCap el).cut (w.tape w.drawn (.appendCap (sLen+m.toNat) sCap el))-(sLen+m.toNat))).toList,by simp[Question.cut],by simp[Builtin.zeroCells],?_⟩
  cases d2<;>simp only[isIntT,Bool.false_eq_true]at hd2
  unfold Builtin.append_
  simp only[h0,h1,List.getElem?_toArray,List.getElem?_cons_zero,List.getElem?_cons_succ,Sem.run_bind,und1,und2,Result.andThen_ok,hs,Sem.run_pure,if_true,asInt,asIntOf,w1,h9,h11]
  rw[if_neg a0]
  simp only[Sem.run_bind,h9,Result.andThen_ok,h11]
  rw[if_neg (by simpa using a1)]
  simp only[Sem.run_pure,Result.andThen_ok,hroom,if_false,Sem.run_bind,h9,h11]
  rw[if_neg (by intro hc;exact a3 hc.1)]
  simp only[Sem.run_bind,h9,Result.andThen_ok,h11]
  rw[if_neg (by simpa using a2)]
  by_cases hm:m.toNat=0
  · simp only[hm,List.replicate_zero,List.append_nil,Nat.add_zero]at*
    simp[Question.forced,hs,g9,g11,hold,hzr,newRow,hm]
    congr 2
    apply Array.ext'
    simp
  simp[Question.forced,hs,g9,g11,hold,hzr,newRow,hm,hz,hzc]
  congr 2
  apply Array.ext'
  simp
theorem ap_roomS {sz:Nat} (h0:tys[0]? =some t1) (h1:tys[1]? =some t2) (und1:∀w,(underlying t1).run P w= .ok (.slice el) w) (und2:∀w,(underlying t2).run P w= .ok d2 w) (hd2:isIntT d2=false)
    (hsz:∀w,(sizeOf el).run P w= .ok sz w) (hv:(Builtin.lenOf v).run P w= .ok n w) (hfc:(Builtin.firstCells sz n v).run P w= .ok us.toArray w) (hroom:sLen+n≤sCap)
    (hst:(match base with|some a=>storeCells (a.add (sLen*sz)) us|none=>pure ():Sem Unit).run P w= .ok () w'):
    (Builtin.append_ tys ty #[.slice base sLen sCap,v]).run P w= .ok (.slice base (sLen+n) sCap) w':=by
  cases d2<;>simp only[isIntT,reduceCtorEq]at hd2
  all_goals
    unfold Builtin.append_
    simp only[h0,h1,List.getElem?_toArray,List.getElem?_cons_zero,List.getElem?_cons_succ,Sem.run_bind,und1,und2,Result.andThen_ok,hsz,Sem.run_pure,Bool.false_eq_true,if_false,hv,hroom,if_true,Bool.not_false,hfc]
    cases base with
    | none=>
      simp only[Sem.run_pure]at hst
      cases hst
      simp
    |some a=>simp at hst;simp[hst]
theorem ap_growS {sz:Nat} (h0:tys[0]? =some t1) (h1:tys[1]? =some t2) (und1:∀w,(underlying t1).run P w= .ok (.slice el) w) (und2:∀w,(underlying t2).run P w= .ok d2 w) (hd2:isIntT d2=false) (hE:TOk P el ee)
    (hsz:ee.size=sz) (hv:(Builtin.lenOf v).run P w= .ok n w) (hfc:(Builtin.firstCells sz n v).run P w.drew= .ok us.toArray w.drew) {os:List Value} (hold:(Builtin.firstCells sz sLen (.slice base sLen sCap)).run P w.drew= .ok os.toArray w.drew)
    (hroom:¬sLen+n≤sCap) (hneed:sLen+n≤9223372036854775807) (hb:(sLen+n)*ee.bytes≤140737488355328) (hb0:ee.bytes≠0∨sLen+n≤9223372036854775807):
    ∃cap rest,sLen+n≤cap∧(os++us).length+rest.length=(os++us).length+(cap-(sLen+n))*ee.zero.cells.size∧
    (Builtin.append_ tys ty #[.slice base sLen sCap,v]).run P w= .ok (.slice (some ⟨w.heap.size,0,none⟩) (sLen+n) cap) (w.drew.alloc (.cells (os++us++rest).toArray el (0,0))):=by
  have hs:=fun w=>hE.run_size w
  rw[hsz]at hs
  have hzr:=fun w=>hE.run_zero w
  obtain⟨ii,h9,h10,h11,h12⟩:=hE.run_info w
  obtain⟨ij,g9,g10,g11,g12⟩:=hE.run_info w.drew
  have hf:=growslice_fits (need:=sLen+n) (old:=sCap) (bytes:=ee.bytes) (by omega) hb
  have a2:¬(281474976710656<Builtin.nextslicecap (sLen+n) sCap*ee.bytes):=by omega
  have a3:¬(((sLen+n:Nat):Int)>IntKind.i64.max):=by
    have:IntKind.i64.max=9223372036854775807:=rfl
    rw[this];omega
  refine⟨(Question.appendCap (sLen+n) sCap el).cut (w.tape w.drawn (.appendCap (sLen+n) sCap el)),(Builtin.zeroCells ee.zero.cells ((Question.appendCap (sLen+n) sCap el).cut (w.tape w.drawn (.appendCap (sLen+n) sCap el))-(sLen+n))).toList,by simp[Question.cut],by simp[Builtin.zeroCells],?_⟩
  clear hb0
  cases d2<;>simp only[isIntT,reduceCtorEq]at hd2
  all_goals
    unfold Builtin.append_
    simp only[h0,h1,List.getElem?_toArray,List.getElem?_cons_zero,List.getElem?_cons_succ,Sem.run_bind,und1,und2,Result.andThen_ok,hs,Sem.run_pure,Bool.false_eq_true,if_false,hv,hroom,Bool.not_false,if_true,h9,h11]
    rw[if_neg (by intro hc;exact a3 hc.1)]
    simp only[Sem.run_bind,h9,Result.andThen_ok,h11]
    rw[if_neg (by simpa using a2)]
    simp[Question.forced,hs,g9,g11,hold,hfc,hzr,newRow]
    congr 2
    apply Array.ext'
    simp
end
theorem R.drew {L:LM} {M:Nat→Prop} {w:World} {x:AV} {u:Value} (h:R L w M x u):R L w.drew M x u:=R.mono (w:=w) (w':=w.drew) (M:=M) (M':=M) (fun _ _ h=>h) (fun _ _ _=>rfl) (fun _ _ h=>h) h
theorem R.undrew {L:LM} {M:Nat→Prop} {w:World} {x:AV} {u:Value} (h:R L w.drew M x u):R L w M x u:=R.mono (w:=w.drew) (w':=w) (M:=M) (M':=M) (fun _ _ h=>h) (fun _ _ _=>rfl) (fun _ _ h=>h) h
theorem SR.drew {L:LM} {Av:Nat→Prop} {w:World} (s:SR L H Av w):SR L H Av w.drew:=
  ⟨fun id cs h=>by
    obtain⟨l,h1,hnd⟩:=s.node id cs h
    exact⟨l,h1,hnd.mono rfl fun k x hk u h7=>h7.drew⟩,
   s.inj,s.av,s.avlt⟩
theorem Step.drew (L:LM) (H:HP) (w:World):Step L H w L H w.drew:=⟨fun _ _ h=>h,rfl,rfl,rfl,Nat.le_refl _,fun _ _ _=>rfl,fun _ _ h=>h⟩
theorem setBlk_id {w:World} {b:Nat} {o:Obj} (h:w.heap[b]? =some o):setBlk w b o=w:=by
  have hlt:=getElem?_lt h
  unfold setBlk
  have:w.heap.setIfInBounds b o=w.heap:=by
    apply Array.ext
    · simp
    intro i h1 h2
    rw[Array.getElem_setIfInBounds]
    split
    · rename_i hi;subst hi
      rw[Array.getElem?_eq_getElem hlt]at h
      simpa using h.symm
    rfl
  rw[this]
theorem append_fin {L:LM} {Av:Nat→Prop} {w:World} (hs:SR L H Av w) (hL:L id=none) (hi:H id=none) {x:AV} {u:Value} (hu:R L w (MM L H Av) x u) {el:TypeId}
    {xs:List AV} {us:List Value} (hl:us.length=xs.length) (hr:∀(k:Nat) (y:AV),xs[k]? =some y→∃c,us[k]? =some c∧R L w (MM L H Av) y c) (hone:∀v∈us,v.oneCell'=true)
    {k:AV→HP→Prop} (h:apst H x xs id k) (run:Sem Value)
    (hroom:∀base sLen sCap w',u= .slice base sLen sCap→sLen+us.length≤sCap→(match base with|some a=>storeCells (a.add sLen) us|none=>pure ():Sem Unit).run P w= .ok () w'→run.run P w= .ok (.slice base (sLen+us.length) sCap) w')
    (hgrow:∀base sLen sCap os,u= .slice base sLen sCap→¬sLen+us.length≤sCap→(Builtin.firstCells 1 sLen u).run P w.drew= .ok (List.toArray os) w.drew→∃cap rest,sLen+us.length≤cap∧(rest:List Value).length=cap-(sLen+us.length)∧
      run.run P w= .ok (.slice (some ⟨w.heap.size,0,none⟩) (sLen+us.length) cap) (w.drew.alloc (.cells (os++us++rest).toArray el (0,0)))):
    ∃z w',run.run P w= .ok z w'∧∃r H' L',k r H'∧(∀i,i≠id→L' i=L i)∧SR L' H' Av w'∧Step L H w L' H' w'∧R L' w' (MM L' H' Av) r z:=by
  unfold apst at h
  split at h
  · have hu':=hu.nl_inv
    by_cases hx:xs=[]
    · have h0:us=[]:=by rw[←List.length_eq_zero_iff,hl,hx];rfl
      have:=hroom none 0 0 w hu' (by simp[h0]) rfl
      refine⟨_,_,this,.nl,H,L,h.1 hx,fun _ _=>rfl,hs,Step.refl _ _ _,?_⟩
      rw[h0];exact .nl
    have hpos:0<us.length:=by rw[hl];exact List.length_pos_iff.2 hx
    obtain⟨cap,rest,h1,h2,h3⟩:=hgrow none 0 0 [] hu' (by omega) (by rw[hu'];simp[Builtin.firstCells])
    obtain⟨h4,h5⟩:=alloc_step hs.drew hL hi ([]++us++rest).toArray el cap xs (by simp;omega) (by omega) (by
      intro k y hk
      obtain⟨c,h6,h7⟩:=hr k y hk
      have hlt:=(List.getElem?_eq_some_iff.1 h6).1
      exact⟨c,by rw[List.getElem?_toArray,List.nil_append,List.getElem?_append_left hlt];exact h6,h7.drew⟩)
    refine⟨_,_,h3,_,_,_,h.2 hx,fun i hne=>updL_ne _ _ hne,h4,(Step.drew _ _ _).trans h5,?_⟩
    rw[Nat.zero_add,hl]
    exact .h _ _ _ _ _ _ (updL_same _ _ _) (by omega) (by simp) (.inr (by simp)) rfl
  · rename_i i off n
    obtain⟨cs,hcs,hlen,h⟩:=h
    cases hu with
    | h _ _ _ l a cp hli hn hc ha h0=>
      obtain⟨l',hl',hnd⟩:=hs.node i cs hcs
      rw[hli]at hl';cases hl'
      obtain⟨arr,et,e2,e3,e4,e5⟩:=hnd.ex h0
      by_cases hro:n+us.length≤cp
      · have hst:(storeCells (a.add n) us).run P w= .ok () (setBlk w l.blk (.cells (arr.toList.take (l.off+off+n)++us++arr.toList.drop (l.off+off+n+us.length)).toArray et (0,0))):=by
          by_cases hcp:cp=0
          · have h0:us=[]:=by rw[←List.length_eq_zero_iff];omega
            subst h0
            have:(arr.toList.take (l.off+off+n)++[]++arr.toList.drop (l.off+off+n+([]:List Value).length)).toArray=arr:=by simp
            rw[this,setBlk_id e2]
            simp[storeCells]
          have:=run_stores (P:=P) (w:=w) (g:=l.blk) (o:=l.off+off+n) us e2 (by omega) hone
          rw[ha.resolve_left hcp,addr_add]
          exact this
        have h1:=hroom (some a) n cp _ rfl hro hst
        obtain⟨h2,h3⟩:=move_step (l':=⟨l.blk,l.off+off,cp,0⟩) (id':=id) hs hcs hli (.inr ⟨hL,hi⟩) rfl rfl (arr.toList.take (l.off+off+n)++us++arr.toList.drop (l.off+off+n+us.length)).toArray et ((cs.drop off).take n++xs) (by simp;omega) (by simp;omega) (by
          intro k y hk
          simp only
          rw[splice_get arr _ _ (by omega)]
          rw[List.getElem?_append]at hk
          have hl1:((cs.drop off).take n).length=n:=by simp;omega
          rw[hl1]at hk
          split at hk
          · rename_i hkn
            rw[if_neg (by omega)]
            simp only[List.getElem?_take,List.getElem?_drop,hkn,if_true]at hk
            obtain⟨c,h6,h7⟩:=e5 (off+k) y hk
            exact⟨c,by rw[Nat.add_assoc];exact h6,h7⟩
          rename_i hkn
          have hlt:=(List.getElem?_eq_some_iff.1 hk).1
          rw[if_pos ⟨by omega,by omega⟩]
          obtain⟨c,h6,h7⟩:=hr (k-n) y hk
          exact⟨c,by rw[show l.off+off+k-(l.off+off+n)=k-n by omega];exact h6,h7⟩)
        refine⟨_,_,h1,_,_,_,h,fun j hne=>updL_ne _ _ hne,h2,h3,?_⟩
        rw[←hl]
        exact .h _ _ _ _ _ _ (updL_same _ _ _) (by omega) (by simp) (by simpa using ha) rfl
      obtain⟨a',n',cp',f1,f2,os,f3,f4,f5⟩:=vw_run (P:=P) hs.drew (x:= .h i off n) (u:= .slice (some a) n cp) (.h _ _ _ l a cp hli hn hc ha h0) (xs:=(cs.drop off).take n) (by simp[vw,hcs,hlen])
      cases f1
      obtain⟨cap,rest,h1,h2,h3⟩:=hgrow (some a) n cp os rfl hro (f4 _ rfl)
      have hol:os.length=n:=by rw[f3];simp;omega
      --the elder block is given up
      have hs':SR L (upd H i none) Av w:=by
        have hsub:∀b,LB L (upd H i none) b→LB L H b:=by
          rintro b ⟨j,c,m,g1,g2,g3⟩
          unfold upd at g1
          split at g1
          · cases g1
          exact⟨j,c,m,g1,g2,g3⟩
        have hlv:∀j c,upd H i none j=some c→H j=some c:=by
          intro j c g
          unfold upd at g
          split at g
          · cases g
          exact g
        refine⟨?_,fun j j' c c' m m' g1 g2=>hs.inj j j' c c' m m' (hlv _ _ g1) (hlv _ _ g2),fun j c m g=>hs.av j c m (hlv _ _ g),hs.avlt⟩
        intro j c g
        obtain⟨m,g1,hnd'⟩:=hs.node j c (hlv _ _ g)
        exact⟨m,g1,hnd'.mono rfl fun k y hk c' g7=>R.mono (w:=w) (w':=w) (M:=MM L H Av) (M':=MM L (upd H i none) Av) (fun _ _ h=>h) (fun _ _ _=>rfl) (fun b _ hb=>Or.elim hb .inl (fun h=> .inr (hsub b h))) g7⟩
      have hi':upd H i none id=none:=by unfold upd;split;rfl;exact hi
      have hdn:∀{y:AV} {c:Value},R L w (MM L H Av) y c→R L w.drew (MM L (upd H i none) Av) y c:=by
        intro y c g
        refine R.mono (w:=w) (w':=w.drew) (M:=MM L H Av) (M':=MM L (upd H i none) Av) (fun _ _ h=>h) (fun _ _ _=>rfl) ?_ g
        rintro b _ (hb|⟨j,c,m,g1,g2,g3⟩)
        · exact .inl hb
        unfold upd at g1
        split at g1
        · cases g1
        exact .inr ⟨j,c,m,g1,g2,g3⟩
      obtain⟨h4,h5⟩:=alloc_step hs'.drew hL hi' (os++us++rest).toArray el cap ((cs.drop off).take n++xs) (by simp;omega) (by simp;omega) (by
        intro k y hk
        rw[List.getElem?_append]at hk
        have hl1:((cs.drop off).take n).length=n:=by simp;omega
        rw[hl1]at hk
        split at hk
        · rename_i hkn
          obtain⟨c,h6,h7⟩:=f5 k y hk
          refine⟨c,?_,hdn h7.undrew⟩
          rw[List.getElem?_toArray,List.append_assoc,List.getElem?_append_left (by omega)];exact h6
        rename_i hkn
        have hlt:=(List.getElem?_eq_some_iff.1 hk).1
        obtain⟨c,h6,h7⟩:=hr (k-n) y hk
        refine⟨c,?_,hdn h7⟩
        rw[List.getElem?_toArray,List.append_assoc,List.getElem?_append_right (by omega),hol,List.getElem?_append_left (by omega)];exact h6)
      have h6:Step L H w L (upd H i none) w:=by
        refine⟨fun _ _ h=>h,rfl,rfl,rfl,Nat.le_refl _,fun _ _ _=>rfl,?_⟩
        rintro b _ ⟨j,c,m,g1,g2,g3⟩
        unfold upd at g1
        split at g1
        · cases g1
        exact⟨j,c,m,g1,g2,g3⟩
      refine⟨_,_,h3,_,_,_,h,fun j hne=>updL_ne _ _ hne,h4,(h6.trans (Step.drew _ _ _)).trans h5,?_⟩
      rw[←hl]
      exact .h _ _ _ _ _ _ (updL_same _ _ _) (by omega) (by simp) (.inr (by simp)) rfl
  exact h.elim
theorem append_finS {sz m:Nat} {L:LM} {Av:Nat→Prop} {w:World} (hs:SR L H Av w) (hL:L id=none) (hi:H id=none) {x:AV} {u:Value} (hu:R L w (MM L H Av) x u) {el:TypeId}
    {xs:List AV} {us:List Value} (hl:us.length=xs.length) (hxm:xs.length=m*sz) (hr:∀(k:Nat) (y:AV),xs[k]? =some y→∃c,us[k]? =some c∧R L w (MM L H Av) y c) (hone:∀v∈us,v.oneCell'=true)
    {k:AV→HP→Prop} (h:apstS sz H x m xs id k) (run:Sem Value)
    (hroom:∀base sLen sCap w',u= .slice base sLen sCap→sLen+m≤sCap→(match base with|some a=>storeCells (a.add (sLen*sz)) us|none=>pure ():Sem Unit).run P w= .ok () w'→run.run P w= .ok (.slice base (sLen+m) sCap) w')
    (hgrow:∀base sLen sCap os,u= .slice base sLen sCap→¬sLen+m≤sCap→(Builtin.firstCells sz sLen u).run P w.drew= .ok (List.toArray os) w.drew→∃cap rest,sLen+m≤cap∧(rest:List Value).length=(cap-(sLen+m))*sz∧
      run.run P w= .ok (.slice (some ⟨w.heap.size,0,none⟩) (sLen+m) cap) (w.drew.alloc (.cells (os++us++rest).toArray el (0,0)))):
    ∃z w',run.run P w= .ok z w'∧∃r H' L',k r H'∧(∀i,i≠id→L' i=L i)∧SR L' H' Av w'∧Step L H w L' H' w'∧R L' w' (MM L' H' Av) r z:=by
  unfold apstS at h
  split at h
  · have hu':=hu.nl_inv
    by_cases hx:m=0
    · have h0:us=[]:=by rw[←List.length_eq_zero_iff,hl,hxm,hx];simp
      have:=hroom none 0 0 w hu' (by simp[hx]) rfl
      refine⟨_,_,this,.nl,H,L,h.1 hx,fun _ _=>rfl,hs,Step.refl _ _ _,?_⟩
      rw[hx];exact .nl
    obtain⟨cap,rest,h1,h2,h3⟩:=hgrow none 0 0 [] hu' (by omega) (by rw[hu'];simp[Builtin.firstCells])
    have e1:(0+m)*sz+(cap-(0+m))*sz=cap*sz:=by rw[←Nat.add_mul];congr 1;omega
    rw[Nat.zero_add]at e1 h2
    obtain⟨h4,h5⟩:=alloc_step hs.drew hL hi ([]++us++rest).toArray el (cap*sz) xs (by simp;omega) (by omega) (by
      intro k y hk
      obtain⟨c,h6,h7⟩:=hr k y hk
      have hlt:=(List.getElem?_eq_some_iff.1 h6).1
      exact⟨c,by rw[List.getElem?_toArray,List.nil_append,List.getElem?_append_left hlt];exact h6,h7.drew⟩)
    refine⟨_,_,h3,_,_,_,h.2 hx,fun i hne=>updL_ne _ _ hne,h4,(Step.drew _ _ _).trans h5,?_⟩
    rw[Nat.zero_add]
    exact .hs _ _ _ _ _ _ _ (updL_same _ _ _) (by omega) (by simp) (.inr (by simp)) rfl
  · rename_i s i off n
    obtain⟨hss,cs,hcs,hlen,h⟩:=h
    subst hss
    cases hu with
    | hs _ _ _ _ l a cp hli hn hc ha h0=>
      obtain⟨l',hl',hnd⟩:=hs.node i cs hcs
      rw[hli]at hl';cases hl'
      obtain⟨arr,et,e2,e3,e4,e5⟩:=hnd.ex h0
      have hl1:((cs.drop off).take (n*s)).length=n*s:=by simp;omega
      by_cases hro:n+m≤cp
      · have hmul:n*s+m*s≤cp*s:=by rw[←Nat.add_mul];exact Nat.mul_le_mul_right _ hro
        have hst:(storeCells (a.add (n*s)) us).run P w= .ok () (setBlk w l.blk (.cells (arr.toList.take (l.off+off+n*s)++us++arr.toList.drop (l.off+off+n*s+us.length)).toArray et (0,0))):=by
          by_cases hcp:cp=0
          · have hm0:m=0:=by omega
            have h0:us=[]:=by rw[←List.length_eq_zero_iff,hl,hxm,hm0];simp
            subst h0
            have:(arr.toList.take (l.off+off+n*s)++[]++arr.toList.drop (l.off+off+n*s+([]:List Value).length)).toArray=arr:=by simp
            rw[this,setBlk_id e2]
            simp[storeCells]
          have:=run_stores (P:=P) (w:=w) (g:=l.blk) (o:=l.off+off+n*s) us e2 (by omega) hone
          rw[ha.resolve_left hcp,addr_add]
          exact this
        have h1:=hroom (some a) n cp _ rfl hro hst
        obtain⟨h2,h3⟩:=move_step (l':=⟨l.blk,l.off+off,cp*s,0⟩) (id':=id) hs hcs hli (.inr ⟨hL,hi⟩) rfl rfl (arr.toList.take (l.off+off+n*s)++us++arr.toList.drop (l.off+off+n*s+us.length)).toArray et ((cs.drop off).take (n*s)++xs) (by simp;omega) (by rw[List.length_append,hl1];show _≤cp*s;omega) (by
          intro k y hk
          simp only
          rw[splice_get arr _ _ (by omega)]
          rw[List.getElem?_append,hl1]at hk
          split at hk
          · rename_i hkn
            rw[if_neg (by omega)]
            simp only[List.getElem?_take,List.getElem?_drop,hkn,if_true]at hk
            obtain⟨c,h6,h7⟩:=e5 (off+k) y hk
            exact⟨c,by rw[Nat.add_assoc];exact h6,h7⟩
          rename_i hkn
          have hlt:=(List.getElem?_eq_some_iff.1 hk).1
          rw[if_pos ⟨by omega,by omega⟩]
          obtain⟨c,h6,h7⟩:=hr (k-n*s) y hk
          exact⟨c,by rw[show l.off+off+k-(l.off+off+n*s)=k-n*s by omega];exact h6,h7⟩)
        refine⟨_,_,h1,_,_,_,h,fun j hne=>updL_ne _ _ hne,h2,h3,?_⟩
        exact .hs _ _ _ _ _ _ _ (updL_same _ _ _) (by omega) (by simp) (by simpa using ha) rfl
      obtain⟨a',cp',f1,f2,os,f3,f4,f5⟩:=vw_runS (P:=P) (sz:=s) hs.drew (x:= .hs s i off n) (u:= .slice (some a) n cp) (.hs _ _ _ _ l a cp hli hn hc ha h0) (m:=n) (xs:=(cs.drop off).take (n*s)) (by simp[vwS,hcs,hlen])
      cases f1
      obtain⟨cap,rest,h1,h2,h3⟩:=hgrow (some a) n cp os rfl hro (f4 _ rfl)
      have hol:os.length=n*s:=by rw[f3];exact hl1
      have e1:n*s+m*s+(cap-(n+m))*s=cap*s:=by rw[←Nat.add_mul,←Nat.add_mul];congr 1;omega
      --the elder block is given up
      have hs':SR L (upd H i none) Av w:=by
        have hsub:∀b,LB L (upd H i none) b→LB L H b:=by
          rintro b ⟨j,c,m,g1,g2,g3⟩
          unfold upd at g1
          split at g1
          · cases g1
          exact⟨j,c,m,g1,g2,g3⟩
        have hlv:∀j c,upd H i none j=some c→H j=some c:=by
          intro j c g
          unfold upd at g
          split at g
          · cases g
          exact g
        refine⟨?_,fun j j' c c' m m' g1 g2=>hs.inj j j' c c' m m' (hlv _ _ g1) (hlv _ _ g2),fun j c m g=>hs.av j c m (hlv _ _ g),hs.avlt⟩
        intro j c g
        obtain⟨m,g1,hnd'⟩:=hs.node j c (hlv _ _ g)
        exact⟨m,g1,hnd'.mono rfl fun k y hk c' g7=>R.mono (w:=w) (w':=w) (M:=MM L H Av) (M':=MM L (upd H i none) Av) (fun _ _ h=>h) (fun _ _ _=>rfl) (fun b _ hb=>Or.elim hb .inl (fun h=> .inr (hsub b h))) g7⟩
      have hi':upd H i none id=none:=by unfold upd;split;rfl;exact hi
      have hdn:∀{y:AV} {c:Value},R L w (MM L H Av) y c→R L w.drew (MM L (upd H i none) Av) y c:=by
        intro y c g
        refine R.mono (w:=w) (w':=w.drew) (M:=MM L H Av) (M':=MM L (upd H i none) Av) (fun _ _ h=>h) (fun _ _ _=>rfl) ?_ g
        rintro b _ (hb|⟨j,c,m,g1,g2,g3⟩)
        · exact .inl hb
        unfold upd at g1
        split at g1
        · cases g1
        exact .inr ⟨j,c,m,g1,g2,g3⟩
      obtain⟨h4,h5⟩:=alloc_step hs'.drew hL hi' (os++us++rest).toArray el (cap*s) ((cs.drop off).take (n*s)++xs) (by simp;omega) (by rw[List.length_append,hl1];omega) (by
        intro k y hk
        rw[List.getElem?_append,hl1]at hk
        split at hk
        · rename_i hkn
          obtain⟨c,h6,h7⟩:=f5 k y (by rw[List.getElem?_eq_getElem (by omega)]at hk ⊢;exact hk)
          refine⟨c,?_,hdn h7.undrew⟩
          rw[List.getElem?_toArray,List.append_assoc,List.getElem?_append_left (by omega)];exact h6
        rename_i hkn
        have hlt:=(List.getElem?_eq_some_iff.1 hk).1
        obtain⟨c,h6,h7⟩:=hr (k-n*s) y hk
        refine⟨c,?_,hdn h7⟩
        rw[List.getElem?_toArray,List.append_assoc,List.getElem?_append_right (by omega),hol,List.getElem?_append_left (by omega)];exact h6)
      have h6:Step L H w L (upd H i none) w:=by
        refine⟨fun _ _ h=>h,rfl,rfl,rfl,Nat.le_refl _,fun _ _ _=>rfl,?_⟩
        rintro b _ ⟨j,c,m,g1,g2,g3⟩
        unfold upd at g1
        split at g1
        · cases g1
        exact⟨j,c,m,g1,g2,g3⟩
      refine⟨_,_,h3,_,_,_,h,fun j hne=>updL_ne _ _ hne,h4,(h6.trans (Step.drew _ _ _)).trans h5,?_⟩
      exact .hs _ _ _ _ _ _ _ (updL_same _ _ _) (by omega) (by simp) (.inr (by simp)) rfl
  exact h.elim
theorem apop_ok (hG:GOk P Γ) {x y:Operand} {t1 t2:TypeId} {tys:Array TypeId} (ho:o.op= .call ⟨.builtin .append,#[x,y],tys⟩) (ht1:tys[0]? =some t1) (ht2:tys[1]? =some t2) {k:AV→HP→Prop}
    (h:apop Γ H t1 t2 (ev x) (ev y) id k):OpS P o ev H id k:=by
  unfold apop at h
  split at h
  · rename_i e1 e2 he1 he2
    split at h
    · rename_i el hd
      split at h
      · rename_i ee hee
        by_cases h1:ee.size=1
        · rw[ifS_t h1]at h
          obtain⟨h2,h⟩:=h
          intro L Av w ρ hs hfn hL hi hops
          have hu:=hops x (by rw[ho];simp[Op.operands,Call.operands])
          have hv:=hops y (by rw[ho];simp[Op.operands,Call.operands])
          have und1:=((hG t1 e1 he1).slice hd).2
          obtain⟨d2,hd2,_,und2⟩:=(hG t2 e2 he2).run_und
          rw[←hd2,←isInt_of]at h
          have hE:=hG el ee hee
          have hsz:=fun w=>hE.run_size w
          rw[h1]at hsz
          obtain⟨z,hz⟩:∃z,ee.zero.cells=#[z]:=by
            cases hzc:ee.zero.cells with
            |mk l=>rw[hzc]at h2;match l,h2 with|[z],_=>exact⟨z,rfl⟩
          have hex:∀z w',(Builtin.append_ tys o.type #[ρ x,ρ y]).run P w= .ok z w'→(execOp ρ o).run P w= .ok (.value z) w':=by
            intro z w' hz
            simp only[execOp,ho,resolve,invoke,builtin,Sem.run_bind,Sem.run_pure,Result.andThen_ok,List.map_toArray,List.map_cons,List.map_nil,hz]
          split at h
          · rename_i kk m hy
            obtain⟨c1,c2,c3,c4,c5,c6,h⟩:=h
            have hmb:m*ee.bytes≤281474976710656:=by
              have h6:(m.toNat:Int)*(ee.bytes:Int)≤140737488355328:=by
                have:m.toNat*ee.bytes≤(lenA (ev x)+m.toNat)*ee.bytes:=Nat.mul_le_mul_right _ (by omega)
                have h7:m.toNat*ee.bytes≤140737488355328:=by omega
                rw[←Int.natCast_mul]
                generalize m.toNat*ee.bytes=q at h7
                omega
              rw[Int.toNat_of_nonneg c2]at h6
              omega
            rw[hy]at hv
            have hlen:∀base sLen sCap,ρ x= .slice base sLen sCap→sLen=lenA (ev x):=by
              intro base sLen sCap hρ
              unfold apst at h
              split at h
              · rename_i hxn
                rw[hxn]at hu;have:=hu.nl_inv;rw[hρ]at this;cases this;rw[hxn];rfl
              · rename_i i off n hxn
                rw[hxn]at hu;rw[hρ]at hu;cases hu;rw[hxn];rfl
              exact h.elim
            have hz0:ee.zero.cells.getD 0 undef=z:=by rw[hz];rfl
            rw[hz0]at c6 h
            have hone1:z.oneCell'=true:=(one_cells (R.ofV1 L w (MM L H Av) z) c6).2
            obtain⟨zz,w',hrun,r,H',L',q1,q2,q3,q4,q5⟩:=append_fin (P:=P) (el:=el) hs hL hi hu (xs:=List.replicate m.toNat (ofV1 z)) (us:=List.replicate m.toNat z) (by simp) (by
                intro k y hk
                simp only[List.getElem?_replicate]at hk
                split at hk
                · rename_i hlt
                  cases hk
                  exact⟨z,by simp[hlt],R.ofV1 _ _ _ _⟩
                cases hk) (by intro v hv;rw[(List.mem_replicate.1 hv).2];exact hone1) h (Builtin.append_ tys o.type #[ρ x,ρ y])
              (by
                intro base sLen sCap w' hρ hro hst
                rw[hρ,hv.i_inv]
                simp only[List.length_replicate]at hro ⊢
                exact ap_roomz ht1 ht2 und1 und2 c1 hE h1 c2 c3 hmb hz hro hst)
              (by
                intro base sLen sCap os hρ hro hold
                have:=hlen _ _ _ hρ
                rw[hρ]at hold
                rw[hρ,hv.i_inv]
                simp only[List.length_replicate]at hro ⊢
                obtain⟨cap,rest,g1,g2,g3⟩:=ap_growz (ty:=o.type) ht1 ht2 und1 und2 c1 hE h1 (k:=kk) c2 c3 hmb hz hold hro (by omega) (by rw[this];exact c4)
                refine⟨cap,rest,g1,?_,g3⟩
                rw[h2]at g2;omega)
            exact .of_value (hex _ _ hrun) ⟨r,H',L',q1,q2,q3,q4,q5⟩
          obtain⟨c1,xs,hxs,c6,c4,c5,h⟩:=h
          obtain⟨a,n,cp,f1,f2,us,f3,f4,f5⟩:=vw_run (P:=P) hs hv hxs
          have hlen:∀base sLen sCap,ρ x= .slice base sLen sCap→sLen=lenA (ev x):=by
            intro base sLen sCap hρ
            unfold apst at h
            split at h
            · rename_i hxn
              rw[hxn]at hu;have:=hu.nl_inv;rw[hρ]at this;cases this;rw[hxn];rfl
            · rename_i i off n hxn
              rw[hxn]at hu;rw[hρ]at hu;cases hu;rw[hxn];rfl
            exact h.elim
          have hone1:∀v∈us,v.oneCell'=true:=by
            intro v hv
            obtain⟨j,hj,hjv⟩:=List.getElem_of_mem hv
            have hj':j<xs.length:=by omega
            obtain⟨c,e9,e10⟩:=f5 j _ (List.getElem?_eq_getElem hj')
            have hcv:c=v:=by
              rw[List.getElem?_eq_getElem hj,hjv]at e9
              exact(Option.some.inj e9).symm
            rw[←hcv]
            exact(one_cells e10 (c6 _ (List.getElem_mem hj'))).2
          have hlo:∀w,(Builtin.lenOf (ρ y)).run P w= .ok us.length w:=by
            intro w;rw[f1];simp only[Builtin.lenOf,Sem.run_pure];rw[show us.length=n by omega]
          have hf4:(Builtin.firstCells 1 us.length (ρ y)).run P w= .ok us.toArray w:=by
            rw[show us.length=n by omega];exact f4 _ rfl
          have hf4':(Builtin.firstCells 1 us.length (ρ y)).run P w.drew= .ok us.toArray w.drew:=by
            rw[show us.length=n by omega];exact f4 _ rfl
          obtain⟨zz,w',hrun,r,H',L',q1,q2,q3,q4,q5⟩:=append_fin (P:=P) (el:=el) hs hL hi hu (xs:=xs) (us:=us) f3 f5 hone1 h (Builtin.append_ tys o.type #[ρ x,ρ y])
            (by
              intro base sLen sCap w' hρ hro hst
              rw[hρ]
              exact ap_room ht1 ht2 und1 und2 c1 hsz (hlo w) hf4 hro hst)
            (by
              intro base sLen sCap os hρ hro hold
              have:=hlen _ _ _ hρ
              rw[hρ]at hold
              rw[hρ]
              obtain⟨cap,rest,g1,g2,g3⟩:=ap_grow (ty:=o.type) ht1 ht2 und1 und2 c1 hE h1 (hlo w) hf4' hold hro (by omega) (by rw[this,f3];exact c4) (.inr (by omega))
              refine⟨cap,rest,g1,?_,g3⟩
              rw[h2]at g2;omega)
          exact .of_value (hex _ _ hrun) ⟨r,H',L',q1,q2,q3,q4,q5⟩
        rw[ifS_f h1]at h
        obtain⟨c1,h2,⟨m,xs⟩,hxs,c6,c4,c5,h⟩:=h
        intro L Av w ρ hs hfn hL hi hops
        have hu:=hops x (by rw[ho];simp[Op.operands,Call.operands])
        have hv:=hops y (by rw[ho];simp[Op.operands,Call.operands])
        have und1:=((hG t1 e1 he1).slice hd).2
        obtain⟨d2,hd2,_,und2⟩:=(hG t2 e2 he2).run_und
        rw[←hd2,←isInt_of]at c1
        have hE:=hG el ee hee
        have hsz:=fun w=>hE.run_size w
        have hex:∀z w',(Builtin.append_ tys o.type #[ρ x,ρ y]).run P w= .ok z w'→(execOp ρ o).run P w= .ok (.value z) w':=by
          intro z w' hz
          simp only[execOp,ho,resolve,invoke,builtin,Sem.run_bind,Sem.run_pure,Result.andThen_ok,List.map_toArray,List.map_cons,List.map_nil,hz]
        obtain⟨a,cp,f1,f2,us,f3,f4,f5⟩:=vw_runS (P:=P) hs hv hxs
        have hlen:∀base sLen sCap,ρ x= .slice base sLen sCap→sLen=lenS (ev x):=by
          intro base sLen sCap hρ
          unfold apstS at h
          split at h
          · rename_i hxn
            rw[hxn]at hu;have:=hu.nl_inv;rw[hρ]at this;cases this;rw[hxn];rfl
          · rename_i s i off n hxn
            rw[hxn]at hu;rw[hρ]at hu;cases hu;rw[hxn];rfl
          exact h.elim
        have hone1:∀v∈us,v.oneCell'=true:=by
          intro v hv
          obtain⟨j,hj,hjv⟩:=List.getElem_of_mem hv
          have hj':j<xs.length:=by omega
          obtain⟨c,e9,e10⟩:=f5 j _ (List.getElem?_eq_getElem hj')
          have hcv:c=v:=by
            rw[List.getElem?_eq_getElem hj,hjv]at e9
            exact(Option.some.inj e9).symm
          rw[←hcv]
          exact(one_cells e10 (c6 _ (List.getElem_mem hj'))).2
        have hlo:∀w,(Builtin.lenOf (ρ y)).run P w= .ok m w:=by
          intro w;rw[f1];simp only[Builtin.lenOf,Sem.run_pure]
        obtain⟨zz,w',hrun,r,H',L',q1,q2,q3,q4,q5⟩:=append_finS (P:=P) (el:=el) hs hL hi hu (xs:=xs) (us:=us) f3 f2 f5 hone1 h (Builtin.append_ tys o.type #[ρ x,ρ y])
          (by
            intro base sLen sCap w' hρ hro hst
            rw[hρ]
            exact ap_roomS ht1 ht2 und1 und2 c1 hsz (hlo w) (f4 _ rfl) hro hst)
          (by
            intro base sLen sCap os hρ hro hold
            have:=hlen _ _ _ hρ
            rw[hρ]at hold
            rw[hρ]
            obtain⟨cap,rest,g1,g2,g3⟩:=ap_growS (ty:=o.type) ht1 ht2 und1 und2 c1 hE rfl (hlo w) (f4 _ rfl) hold hro (by omega) (by rw[this];exact c4) (.inr (by omega))
            refine⟨cap,rest,g1,?_,g3⟩
            rw[h2]at g2;omega)
        exact .of_value (hex _ _ hrun) ⟨r,H',L',q1,q2,q3,q4,q5⟩
      exact h.elim
    exact h.elim
  exact h.elim
end
end Go.Proofs.YtghmeeifjeafmaaGreat
namespace Go.Proofs.YtghmeeifjeafmaaGreat
def Ent (P:Program) (f:FuncId):Prop:=∃fn,P.funcs[f]? =some fn∧fn.body.isNone=false∧(fn.name== "runtime.NumGoroutine")=false
def ArgsR (L:LM) (w:World) (M:Nat→Prop) (as:List AV) (us:Array Value):Prop:=
  us.size=as.length∧∀(k:Nat) (x:AV),as[k]? =some x→R L w M x (us.getD k undef)
def AC (P:Program) (f:FuncId) (nx:Nat) (H:HP) (as:List AV) (Q:Nat→HP→AV→Prop):Prop:=
  Ent P f∧∀(L:LM) (Av:Nat→Prop) (w:World) (us:Array Value),SR L H Av w→(∀i,nx≤i→L i=none)→ArgsR L w (MM L H Av) as us→
    Calls P f us w fun e w'=>∃u r L' nx' H',e= .returned u∧Q nx' H' r∧nx≤nx'∧(∀i,nx'≤i→L' i=none)∧(∀i,i<nx→L' i=L i)∧SR L' H' Av w'∧Step L H w L' H' w'∧R L' w' (MM L' H' Av) r u
theorem AC.mono {P:Program} {f:FuncId} {nx:Nat} {H:HP} {as:List AV} {Q Q':Nat→HP→AV→Prop} (h:AC P f nx H as Q) (hq:∀n H r,Q n H r→Q' n H r):AC P f nx H as Q':=
  ⟨h.1,fun L Av w us a b c=>(h.2 L Av w us a b c).mono fun e w' ⟨u,r,L',nx',H',h1,h2,h3⟩=>⟨u,r,L',nx',H',h1,hq _ _ _ h2,h3⟩⟩
def noH:HP:=fun _=>none
def ACp (P:Program) (f:FuncId) (as:List AV) (r:AV):Prop:=
  Ent P f∧∀(L:LM) (M:Nat→Prop) (w:World) (us:Array Value),(∀b,M b→b<w.heap.size)→(∃n,∀i,n≤i→L i=none)→ArgsR L w M as us→
    Calls P f us w fun e w'=>∃u,e= .returned u∧Step L noH w L noH w'∧R L w' M r u
theorem LB_noH {L:LM} {b:Nat}:¬LB L noH b:=by rintro⟨id,cs,l,h,_⟩;cases h
theorem SR_noH {L:LM} {M:Nat→Prop} {w:World} (h:∀b,M b→b<w.heap.size):SR L noH M w:=
  ⟨fun id cs h=>(by cases h),fun id id' cs cs' l l' h=>(by cases h),fun id cs l h=>(by cases h),h⟩
theorem MM_noH {L:LM} {M:Nat→Prop}:MM L noH M=M:=by
  funext b;apply propext
  exact⟨fun h=>h.elim id (fun h=>absurd h LB_noH),.inl⟩
theorem MM_lt {L:LM} {H:HP} {Av:Nat→Prop} {w:World} (s:SR L H Av w):∀b,MM L H Av b→b<w.heap.size:=
  fun b h=>h.elim (s.avlt b) (LB_lt s)
theorem SR.kept {L:LM} {H:HP} {Av:Nat→Prop} {w w':World} (s:SR L H Av w) (st:Step L noH w L noH w'):SR L H Av w'∧Step L H w L H w':=by
  have hk:∀b,b<w.heap.size→w'.heap[b]? =w.heap[b]? :=fun b hb=>st.keep b hb LB_noH
  have hst:Step L H w L H w':=⟨fun _ _ h=>h,st.os,st.tape,st.output,st.size,fun b hb _=>hk b hb,fun _ _ h=>h⟩
  refine⟨⟨?_,s.inj,s.av,fun b hb=>Nat.lt_of_lt_of_le (s.avlt b hb) st.size⟩,hst⟩
  intro id cs h
  obtain⟨l,h1,hnd⟩:=s.node id cs h
  exact⟨l,h1,hnd.mono (hk _ hnd.lt) fun k x hx u h7=>h7.step hst⟩
inductive Vw (H:HP):AV→AV→Prop
  |refl (a:AV):Vw H a a
  |nl:Vw H .nl (.v 0 [])
  |h (id o n:Nat) (cs ts:List AV) (h1:H id=some cs) (h2:o+n≤cs.length) (h3:ts.length=n) (h4:∀(k:Nat) (x y:AV),cs[o+k]? =some x→ts[k]? =some y→Vw H x y):Vw H (.h id o n) (.v n ts)
  |hs (s id o n:Nat) (cs ts:List AV) (h1:H id=some cs) (h2:o+n*s≤cs.length) (h3:ts.length=n*s) (h4:∀(k:Nat) (x y:AV),cs[o+k]? =some x→ts[k]? =some y→Vw H x y):Vw H (.hs s id o n) (.v n ts)
  |q (id o:Nat) (cs ts:List AV) (h1:H id=some cs) (h3:ts.length=cs.length) (h4:∀(k:Nat) (x y:AV),cs[k]? =some x→ts[k]? =some y→Vw H x y):Vw H (.q id o) (.p o ts)
  |g (cs ts:List AV) (h3:ts.length=cs.length) (h4:∀(k:Nat) (x y:AV),cs[k]? =some x→ts[k]? =some y→Vw H x y):Vw H (.g cs) (.g ts)
  |t (cs ts:List AV) (h3:ts.length=cs.length) (h4:∀(k:Nat) (x y:AV),cs[k]? =some x→ts[k]? =some y→Vw H x y):Vw H (.t cs) (.t ts)
  |v (n:Nat) (cs ts:List AV) (h3:ts.length=cs.length) (h4:∀(k:Nat) (x y:AV),cs[k]? =some x→ts[k]? =some y→Vw H x y):Vw H (.v n cs) (.v n ts)
  |p (n:Nat) (cs ts:List AV) (h3:ts.length=cs.length) (h4:∀(k:Nat) (x y:AV),cs[k]? =some x→ts[k]? =some y→Vw H x y):Vw H (.p n cs) (.p n ts)
  |f (n:Nat) (cs ts:List AV) (h3:ts.length=cs.length) (h4:∀(k:Nat) (x y:AV),cs[k]? =some x→ts[k]? =some y→Vw H x y):Vw H (.f n cs) (.f n ts)
theorem Vw.sound {L:LM} {H:HP} {Av:Nat→Prop} {w:World} (s:SR L H Av w) {a t:AV} (v:Vw H a t):∀{u:Value},R L w (MM L H Av) a u→R L w Av t u:=by
  have hM:∀{x:AV} {u:Value},R L w (MM L H Av) x u→R L w Av x u:=fun h=>h.mono (fun _ _ h=>h) (fun _ _ _=>rfl) (fun _ _ h=> .inl h)
  induction v with
  |refl a=>intro u h;exact hM h
  |nl=>intro u h;rw[h.nl_inv];exact .v0 _ _
  | h id o n cs ts h1 h2 h3 h4 ih=>
    intro u h
    obtain⟨l,hl,hnd⟩:=s.node id cs h1
    cases h with
    | h _ _ _ l' ad cp hl' hn hc ha h0=>
      rw[hl]at hl';cases hl'
      obtain⟨arr,e,e2,e3,e4,e5⟩:=hnd.ex h0
      by_cases hn0:n=0
      · subst hn0
        have:ts=[]:=List.length_eq_zero_iff.1 h3
        subst this
        exact .v0 _ _
      rw[ha.resolve_left (by omega)]
      have hcell:∀k,k<n→∃u,arr[l.off+o+k]? =some u∧R L w (MM L H Av) (cs.getD (o+k) .j) u:=by
        intro j hj
        have hlt:o+j<cs.length:=by omega
        obtain⟨u,h3,h4⟩:=e5 (o+j) cs[o+j] (List.getElem?_eq_getElem hlt)
        exact⟨u,by rw[Nat.add_assoc];exact h3,by simpa[hlt]using h4⟩
      refine .v n ts l.blk (l.off+o) cp arr e _ (fun k=>arr.getD (l.off+o+k) undef) (s.av id cs l h1 hl) e2 hn ?_ ?_
      · intro k hk
        obtain⟨u,h6,_⟩:=hcell k (by omega)
        rw[h6];simp[h6]
      intro k y hy
      have hk:=(List.getElem?_eq_some_iff.1 hy).1
      obtain⟨u,h6,h7⟩:=hcell k (by omega)
      have hlt:o+k<cs.length:=by omega
      have hx:cs[o+k]? =some (cs.getD (o+k) .j):=by simp[hlt]
      have:=ih k _ y hx hy h7
      rw[show arr.getD (l.off+o+k) undef=u by simp[h6]]
      exact this
  | hs z id o n cs ts h1 h2 h3 h4 ih=>
    intro u h
    obtain⟨l,hl,hnd⟩:=s.node id cs h1
    cases h with
    | hs _ _ _ _ l' ad cp hl' hn hc ha h0=>
      rw[hl]at hl';cases hl'
      obtain⟨arr,e,e2,e3,e4,e5⟩:=hnd.ex h0
      by_cases hn0:n=0
      · subst hn0
        have:ts=[]:=List.length_eq_zero_iff.1 (by simpa using h3)
        subst this
        exact .v0 _ _
      rw[ha.resolve_left (by omega)]
      have hcell:∀k,k<n*z→∃u,arr[l.off+o+k]? =some u∧R L w (MM L H Av) (cs.getD (o+k) .j) u:=by
        intro j hj
        have hlt:o+j<cs.length:=by omega
        obtain⟨u,h3,h4⟩:=e5 (o+j) cs[o+j] (List.getElem?_eq_getElem hlt)
        exact⟨u,by rw[Nat.add_assoc];exact h3,by simpa[hlt]using h4⟩
      refine .v n ts l.blk (l.off+o) cp arr e _ (fun k=>arr.getD (l.off+o+k) undef) (s.av id cs l h1 hl) e2 hn ?_ ?_
      · intro k hk
        obtain⟨u,h6,_⟩:=hcell k (by omega)
        rw[h6];simp[h6]
      intro k y hy
      have hk:=(List.getElem?_eq_some_iff.1 hy).1
      obtain⟨u,h6,h7⟩:=hcell k (by omega)
      have hlt:o+k<cs.length:=by omega
      have hx:cs[o+k]? =some (cs.getD (o+k) .j):=by simp[hlt]
      have:=ih k _ y hx hy h7
      rw[show arr.getD (l.off+o+k) undef=u by simp[h6]]
      exact this
  | q id o cs ts h1 h3 h4 ih=>
    intro u h
    obtain⟨l,hl,hnd⟩:=s.node id cs h1
    obtain⟨l',⟨hl',h0⟩,hu⟩:=h.q_inv
    rw[hl]at hl';cases hl'
    obtain⟨arr,e,e2,e3,e4,e5⟩:=hnd.ex h0
    rw[hu]
    refine .p o ts l.blk l.off arr e _ (fun k=>arr.getD (l.off+k) undef) (s.av id cs l h1 hl) e2 ?_ ?_
    · intro k hk
      obtain⟨u,h6,_⟩:=e5 k cs[k] (List.getElem?_eq_getElem (by omega))
      rw[h6];simp[h6]
    intro k y hy
    have hk:=(List.getElem?_eq_some_iff.1 hy).1
    obtain⟨u,h6,h7⟩:=e5 k cs[k] (List.getElem?_eq_getElem (by omega))
    have:=ih k _ y (List.getElem?_eq_getElem (by omega)) hy h7
    rw[show arr.getD (l.off+k) undef=u by simp[h6]]
    exact this
  | g cs ts h3 h4 ih=>
    intro u h
    cases h with
    | g _ us hs hr=>
      refine .g ts us (by omega) ?_
      intro k y hy
      have hk:=(List.getElem?_eq_some_iff.1 hy).1
      have hx:cs[k]? =some cs[k]:=List.getElem?_eq_getElem (by omega)
      exact ih k _ y hx hy (hr k _ hx)
  | t cs ts h3 h4 ih=>
    intro u h
    cases h with
    | t _ us hs hr=>
      refine .t ts us (by omega) ?_
      intro k y hy
      have hk:=(List.getElem?_eq_some_iff.1 hy).1
      have hx:cs[k]? =some cs[k]:=List.getElem?_eq_getElem (by omega)
      exact ih k _ y hx hy (hr k _ hx)
  | f n cs ts h3 h4 ih=>
    intro u h
    cases h with
    | f _ _ us hs hr=>
      refine .f n ts us (by omega) ?_
      intro k y hy
      have hk:=(List.getElem?_eq_some_iff.1 hy).1
      have hx:cs[k]? =some cs[k]:=List.getElem?_eq_getElem (by omega)
      exact ih k _ y hx hy (hr k _ hx)
  | v n cs ts h3 h4 ih=>
    intro u h
    cases h with
    | v0 a cp=>
      have:ts=[]:=List.length_eq_zero_iff.1 (by simpa using h3)
      subst this;exact .v0 _ _
    | v _ _ b off cp arr e f us hm hb hn hu hr=>
      refine .v n ts b off cp arr e f us (fun h=>hm (.inl h)) hb hn (fun k hk=>hu k (by omega)) ?_
      intro k y hy
      have hk:=(List.getElem?_eq_some_iff.1 hy).1
      have hx:cs[k]? =some cs[k]:=List.getElem?_eq_getElem (by omega)
      exact ih k _ y hx hy (hr k _ hx)
  | p n cs ts h3 h4 ih=>
    intro u h
    cases h with
    | p _ _ b off arr e f us hm hb hu hr=>
      refine .p n ts b off arr e f us (fun h=>hm (.inl h)) hb (fun k hk=>hu k (by omega)) ?_
      intro k y hy
      have hk:=(List.getElem?_eq_some_iff.1 hy).1
      have hx:cs[k]? =some cs[k]:=List.getElem?_eq_getElem (by omega)
      exact ih k _ y hx hy (hr k _ hx)
inductive Vws (H:HP):List AV→List AV→Prop
  |nil:Vws H [] []
  |cons {a t:AV} {as ts:List AV} (h:Vw H a t) (hs:Vws H as ts):Vws H (a::as) (t::ts)
theorem Vws.get {H:HP} {as ts:List AV} (h:Vws H as ts):ts.length=as.length∧∀(k:Nat) (t:AV),ts[k]? =some t→∃a,as[k]? =some a∧Vw H a t:=by
  induction h with
  |nil=>exact⟨rfl,by simp⟩
  | cons h hs ih=>
    refine⟨by simp[ih.1],?_⟩
    intro k t hk
    cases k with
    |zero=>simp at hk;subst hk;exact⟨_,rfl,h⟩
    |succ k=>exact ih.2 k t (by simpa using hk)
theorem ArgsR.view {L:LM} {H:HP} {Av:Nat→Prop} {w:World} (s:SR L H Av w) {as ts:List AV} {us:Array Value} (h:ArgsR L w (MM L H Av) as us) (v:Vws H as ts):ArgsR L w Av ts us:=by
  obtain⟨h1,h2⟩:=v.get
  refine⟨by rw[h.1,h1],?_⟩
  intro k t hk
  obtain⟨a,h3,h4⟩:=h2 k t hk
  exact h4.sound s (h.2 k a h3)
def RC (P:Program) (f:FuncId) (H:HP) (as:List AV) (r:AV):Prop:=
  ACp P f as r∨∃ts,Vws H as ts∧ACp P f ts r∧Fl r
theorem RC.run {P:Program} {f:FuncId} {H H':HP} {as:List AV} {r:AV} (h:RC P f H as r) (hH:∀i c,H i=some c→H' i=some c):Ent P f∧∀(L:LM) (Av:Nat→Prop) (w:World) (us:Array Value),SR L H' Av w→(∃n,∀i,n≤i→L i=none)→ArgsR L w (MM L H' Av) as us→
    Calls P f us w fun e w'=>∃u,e= .returned u∧SR L H' Av w'∧Step L H' w L H' w'∧R L w' (MM L H' Av) r u:=by
  rcases h with h|⟨ts,hv,h,hf⟩
  · refine⟨h.1,fun L Av w us s hn a=>(h.2 L _ w us (MM_lt s) hn a).mono ?_⟩
    rintro e w' ⟨u,h1,h2,h3⟩
    exact⟨u,h1,(s.kept h2).1,(s.kept h2).2,h3⟩
  refine⟨h.1,fun L Av w us s hn a=>(h.2 L _ w us s.avlt hn (a.view s ?_)).mono ?_⟩
  · have mono:∀{a t:AV},Vw H a t→Vw H' a t:=by
      intro a t v
      induction v with
      |refl a=>exact .refl a
      |nl=>exact .nl
      |h id o n cs ts h1 h2 h3 h4 ih=>exact .h id o n cs ts (hH _ _ h1) h2 h3 ih
      |hs s id o n cs ts h1 h2 h3 h4 ih=>exact .hs s id o n cs ts (hH _ _ h1) h2 h3 ih
      |q id o cs ts h1 h3 h4 ih=>exact .q id o cs ts (hH _ _ h1) h3 ih
      |g cs ts h3 h4 ih=>exact .g cs ts h3 ih
      |t cs ts h3 h4 ih=>exact .t cs ts h3 ih
      |v n cs ts h3 h4 ih=>exact .v n cs ts h3 ih
      |p n cs ts h3 h4 ih=>exact .p n cs ts h3 ih
      |f n cs ts h3 h4 ih=>exact .f n cs ts h3 ih
    clear a h
    induction hv with
    |nil=>exact .nil
    |cons h hs ih=>exact .cons (mono h) ih
  rintro e w' ⟨u,h1,h2,h3⟩
  exact⟨u,h1,(s.kept h2).1,(s.kept h2).2,h3.fl (fun _ _ h=>h) hf⟩
theorem run_enter {P:Program} {f:FuncId} (he:Ent P f) {o:Oper} {ρ:Operand→Value} {args:Array Operand} {tys:Array TypeId} (ho:o.op= .call ⟨.value (.func f),args,tys⟩) (hρ:ρ (.func f)= .func (.func f) #[] #[]) (w:World):
    (execOp ρ o).run P w= .ok (.enter f (args.map ρ)) w:=by
  obtain⟨fn,h1,h2,h3⟩:=he
  have h2':¬fn.body=none:=by intro hn;rw[hn]at h2;cases h2
  have h3':¬fn.name= "runtime.NumGoroutine" :=by simpa using h3
  simp[execOp,ho,resolve,Deferred.ofValue,hρ,invoke,callFunc,h1,h2',h3']
theorem args_of {L:LM} {w:World} {M:Nat→Prop} {o:Oper} {ev:Operand→AV} {ρ:Operand→Value} {f:FuncId} {args:Array Operand} {tys:Array TypeId} (ho:o.op= .call ⟨.value (.func f),args,tys⟩)
    (hops:∀x∈o.op.operands,R L w M (ev x) (ρ x)):ArgsR L w M (args.toList.map ev) (args.map ρ):=by
  refine⟨by simp,?_⟩
  intro k x hk
  simp only[List.getElem?_map,Option.map_eq_some_iff,Array.getElem?_toList]at hk
  obtain⟨y,h1,h2⟩:=hk
  have hm:y∈o.op.operands:=by
    rw[ho];simp only[Op.operands,Call.operands,Array.mem_append]
    exact .inr (Array.mem_of_getElem? h1)
  have:=hops y hm
  rw[←h2]
  simpa[h1]using this
theorem R.f_inv {L:LM} {w:World} {M:Nat→Prop} {f:Nat} {cs:List AV} {u:Value} (h:R L w M (.f f cs) u):∃us,u= .func (.func f) #[] us∧ArgsR L w M cs us:=by
  cases h with
  |f _ _ us hs hr=>exact⟨us,rfl,hs,hr⟩
theorem R.f0_inv {L:LM} {w:World} {M:Nat→Prop} {f:Nat} {u:Value} (h:R L w M (.f f []) u):u= .func (.func f) #[] #[]:=by
  obtain⟨us,h1,h2,_⟩:=h.f_inv
  have:us=#[]:=by simpa using h2
  rw[h1,this]
theorem ArgsR.append {L:LM} {w:World} {M:Nat→Prop} {xs cs:List AV} {us vs:Array Value} (h1:ArgsR L w M xs us) (h2:ArgsR L w M cs vs):ArgsR L w M (xs++cs) (us++vs):=by
  refine⟨by simp[h1.1,h2.1],?_⟩
  intro k x hk
  rw[List.getElem?_append]at hk
  rw[Array.getD_eq_getD_getElem?,Array.getElem?_append]
  split at hk
  · rename_i hlt
    rw[if_pos (by rw[h1.1];exact hlt)]
    have:=h1.2 k x hk
    rwa [Array.getD_eq_getD_getElem?]at this
  rename_i hlt
  rw[if_neg (by rw[h1.1];exact hlt),h1.1]
  have:=h2.2 _ x hk
  rwa [Array.getD_eq_getD_getElem?]at this
theorem run_enterV {P:Program} {f:FuncId} (he:Ent P f) {o:Oper} {ρ:Operand→Value} {x:Operand} {args:Array Operand} {tys:Array TypeId} {us:Array Value} (ho:o.op= .call ⟨.value x,args,tys⟩) (hρ:ρ x= .func (.func f) #[] us) (w:World):
    (execOp ρ o).run P w= .ok (.enter f (args.map ρ++us)) w:=by
  obtain⟨fn,h1,h2,h3⟩:=he
  have h2':¬fn.body=none:=by intro hn;rw[hn]at h2;cases h2
  have h3':¬fn.name= "runtime.NumGoroutine" :=by simpa using h3
  simp[execOp,ho,resolve,Deferred.ofValue,hρ,invoke,callFunc,h1,h2',h3']
theorem args_ofV {L:LM} {w:World} {M:Nat→Prop} {o:Oper} {ev:Operand→AV} {ρ:Operand→Value} {x:Operand} {args:Array Operand} {tys:Array TypeId} (ho:o.op= .call ⟨.value x,args,tys⟩)
    (hops:∀x∈o.op.operands,R L w M (ev x) (ρ x)):ArgsR L w M (args.toList.map ev) (args.map ρ):=by
  refine⟨by simp,?_⟩
  intro k x hk
  simp only[List.getElem?_map,Option.map_eq_some_iff,Array.getElem?_toList]at hk
  obtain⟨y,h1,h2⟩:=hk
  have hm:y∈o.op.operands:=by
    rw[ho];simp only[Op.operands,Call.operands,Array.mem_append]
    exact .inr (Array.mem_of_getElem? h1)
  have:=hops y hm
  rw[←h2]
  simpa[h1]using this
theorem R.c_inv {L:LM} {w:World} {M:Nat→Prop} {x u:Value} (h:R L w M (.c x) u):u=x:=by cases h;rfl
inductive Tg:Prop→Type
  |mk (p:Prop):Tg p
structure gopB (x want:Bool) (yes no:Prop) (a:Tg yes) (b:Tg no):Prop where
  y:x=want→yes
  n:x=(!want)→no
structure pickB (z:Bool) (yes no:Prop) (a:Tg yes) (b:Tg no):Prop where
  y:z=true→yes
  n:z=false→no
theorem gB1 {y n:Prop} {a:Tg y} {b:Tg n}:gopB true true y n a b=y:=propext ⟨fun h=>h.1 rfl,fun h=>⟨fun _=>h,(fun e=>by cases e)⟩⟩
theorem gB2 {y n:Prop} {a:Tg y} {b:Tg n}:gopB false false y n a b=y:=propext ⟨fun h=>h.1 rfl,fun h=>⟨fun _=>h,(fun e=>by cases e)⟩⟩
theorem gB3 {y n:Prop} {a:Tg y} {b:Tg n}:gopB true false y n a b=n:=propext ⟨fun h=>h.2 rfl,fun h=>⟨(fun e=>by cases e),fun _=>h⟩⟩
theorem gB4 {y n:Prop} {a:Tg y} {b:Tg n}:gopB false true y n a b=n:=propext ⟨fun h=>h.2 rfl,fun h=>⟨(fun e=>by cases e),fun _=>h⟩⟩
theorem pB1 {y n:Prop} {a:Tg y} {b:Tg n}:pickB true y n a b=y:=propext ⟨fun h=>h.1 rfl,fun h=>⟨fun _=>h,(fun e=>by cases e)⟩⟩
theorem pB2 {y n:Prop} {a:Tg y} {b:Tg n}:pickB false y n a b=n:=propext ⟨fun h=>h.2 rfl,fun h=>⟨(fun e=>by cases e),fun _=>h⟩⟩
theorem gopB.mk' {x want:Bool} {yes no:Prop} {a:Tg yes} {b:Tg no} (y:x=want→yes) (n:x=(!want)→no):gopB x want yes no a b:=⟨y,n⟩
def mfop (fn:Fn) (first:List Operand) (cs:List AV) (k:AV→Prop):Prop:=match fn,first with
  | .func f,[]=>k (.f f cs)
  |_,_=>False
def fnV (v:AV) (k:Nat→List AV→Prop):Prop:=match v with
  | .f f cs=>k f cs
  |_=>False
def qop (Γ:TEnv) (P:Program) (op:Op) (t:List AV) (H:HP) (id:Nat) (k:AV→Option (List AV)→Prop):Prop:=
  match op with
  | .move x=>k (evo t x) none
  | .assign x=>k (evo t x) none
  | .pick c a b=>match evo t c with
    | .b z=>pickB z (k (evo t a) none) (k (evo t b) none) (.mk _) (.mk _)
    |_=>False
  | .binOp op ty x y _=>bop Γ op ty (evo t x) (evo t y) fun r=>k r none
  | .unOp op _ x=>uop op (evo t x) fun r=>k r none
  | .convert src dst x=>cop Γ src dst (evo t x) fun r=>k r none
  | .load ty x=>lop Γ H ty (evo t x) fun r=>k r none
  | .fieldAddr ty x f=>fop Γ ty f fun off=>padd (evo t x) off fun r=>k r none
  | .indexAddr ty x i=>iop Γ ty (evo t x) (evo t i) fun r=>k r none
  | .slice ty x lo hi none=>sop Γ ty (evo t x) (lo.map (evo t)) (hi.map (evo t)) fun r=>k r none
  | .extract x n=>eop (evo t x) n fun r=>k r none
  | .field ty x f=>fvop Γ ty (evo t x) f fun r=>k r none
  | .nilCheck x=>nop (evo t x) fun r=>k r none
  | .index ty x i=>sxop Γ ty (evo t x) (evo t i) fun r=>k r none
  | .build ty parts=>buop Γ ty (parts.toList.map fun (i,x)=>(i,evo t x)) fun r=>k r none
  | .buildSlice ty len parts=>bsop Γ ty len (parts.toList.map fun (i,x)=>(i,evo t x)) id k
  | .makeSlice ty x y=>mkop Γ ty (evo t x) (evo t y) id k
  | .alloc ty=>match Γ ty with
    |some e=>k (.q id 0) (some (zcells e))
    |none=>False
  | .box ty x=>okA (evo t x)=true∧k (.q id 0) (some (cellsA (evo t x)))
  | .call ⟨.builtin .len,args,tys⟩=>match args.toList,tys.toList with
    |[x],ty::_=>lenop Γ ty (evo t x) fun r=>k r none
    |_,_=>False
  | .call ⟨.builtin .cap,args,tys⟩=>match args.toList,tys.toList with
    |[x],ty::_=>capop Γ ty (evo t x) fun r=>k r none
    |_,_=>False
  | .call ⟨.builtin .max,args,_⟩=>match args.toList with
    |[x,y]=>mxop (evo t x) (evo t y) fun r=>k r none
    |_=>False
  | .call ⟨.builtin .min,args,_⟩=>match args.toList with
    |[x,y]=>mnop (evo t x) (evo t y) fun r=>k r none
    |_=>False
  | .call ⟨.value (.func f),args,_⟩=>ex2 (fun r=>RC P f H (args.toList.map (evo t)) r) fun r=>k r none
  | .call ⟨.value (.tmp n),args,_⟩=>fnV (evo t (.tmp n)) fun f cs=>ex2 (fun r=>RC P f H (args.toList.map (evo t)++cs) r) fun r=>k r none
  | .makeFunc fn first cap=>mfop fn first.toList (cap.toList.map (evo t)) fun r=>k r none
  |_=>False
def lays:Op→Bool
  | .alloc _| .box .. | .makeSlice .. | .buildSlice .. =>true
  |_=>false
theorem qop_ok' {P:Program} {Γ:TEnv} (hG:GOk P Γ) {o:Oper} {t:List AV} {H:HP} {id:Nat} {k:AV→Option (List AV)→Prop} (h:qop Γ P o.op t H id k):∃r d,k r d∧QOk P o (evo t) H id r d∧(lays o.op=false→d=none):=by
  have val:∀x,(∀ρ:Operand→Value,∀w,(execOp ρ o).run P w= .ok (.value (ρ x)) w)→x∈o.op.operands→QOk P o (evo t) H id (evo t x) none:=
    fun x hx hm=>QOk.pure fun H' hH L Av w ρ hs hops=>⟨ρ x,hx ρ w,hops x hm⟩
  have lift:∀{K:AV→Prop},(∃r,K r∧QOk P o (evo t) H id r none)→(∀r,K r→k r none)→∃r d,k r d∧QOk P o (evo t) H id r d∧(lays o.op=false→d=none):=
    fun ⟨r,h1,h2⟩ h3=>⟨r,none,h3 r h1,h2,fun _=>rfl⟩
  cases ho:o.op<;>rw[ho]at h lift<;>simp only[qop]at h
  case move x=>exact⟨_,_,h,val x (fun ρ w=>by simp[execOp,ho]) (by simp[ho,Op.operands]),fun _=>rfl⟩
  case assign x=>exact⟨_,_,h,val x (fun ρ w=>by simp[execOp,ho]) (by simp[ho,Op.operands]),fun _=>rfl⟩
  case pick c a b=>
    split at h
    · rename_i z hz
      cases z with
      | true=>
        refine⟨_,_,h.1 rfl,QOk.pure fun H' hH L Av w ρ hs hops=>⟨ρ a,?_,hops a (by simp[ho,Op.operands])⟩,fun _=>rfl⟩
        have hc:=hops c (by simp[ho,Op.operands])
        rw[hz]at hc
        simp[execOp,ho,hc.b_inv,asBool]
      | false=>
        refine⟨_,_,h.2 rfl,QOk.pure fun H' hH L Av w ρ hs hops=>⟨ρ b,?_,hops b (by simp[ho,Op.operands])⟩,fun _=>rfl⟩
        have hc:=hops c (by simp[ho,Op.operands])
        rw[hz]at hc
        simp[execOp,ho,hc.b_inv,asBool]
    exact h.elim
  case binOp op ty x y ty2=>
    obtain⟨r,h1,h2⟩:=bop_run hG h x y
    refine⟨r,none,h1,QOk.pure fun H' hH L Av w ρ hs hops=>?_,fun _=>rfl⟩
    obtain⟨z,h3,h4⟩:=h2 L w _ _ _ (hops x (by simp[ho,Op.operands])) (hops y (by simp[ho,Op.operands]))
    exact⟨z,by simp only[execOp,ho,Sem.run_bind,Sem.run_pure]at h3 ⊢;rw[h3];rfl,h4⟩
  case unOp op ty x=>
    obtain⟨r,h1,h2⟩:=uop_run (P:=P) h
    refine⟨r,none,h1,QOk.pure fun H' hH L Av w ρ hs hops=>?_,fun _=>rfl⟩
    obtain⟨z,h3,h4⟩:=h2 L w _ _ (hops x (by simp[ho,Op.operands]))
    exact⟨z,by simp[execOp,ho,h3],h4⟩
  case convert s d x=>
    obtain⟨r,h1,h2⟩:=cop_run hG h
    refine⟨r,none,h1,QOk.pure fun H' hH L Av w ρ hs hops=>?_,fun _=>rfl⟩
    obtain⟨z,h3,h4⟩:=h2 L w _ _ (hops x (by simp[ho,Op.operands]))
    exact⟨z,by simp[execOp,ho,h3],h4⟩
  case load ty x=>exact lift (lop_ok hG ho h) (fun _ h=>h)
  case fieldAddr ty x f=>exact lift (fop_ok hG ho h) (fun _ h=>h)
  case indexAddr ty x i=>exact lift (iop_ok hG ho h) (fun _ h=>h)
  case slice ty x lo hi mx=>
    cases mx with
    |none=>exact lift (sop_ok hG ho h) (fun _ h=>h)
    |some _=>exact h.elim
  case extract x n=>exact lift (eop_ok ho h) (fun _ h=>h)
  case field ty x f=>exact lift (fvop_ok hG ho h) (fun _ h=>h)
  case index ty x i=>exact lift (sxq_ok hG ho h) (fun _ h=>h)
  case nilCheck x=>exact lift (nop_ok ho h) (fun _ h=>h)
  case build ty parts=>exact lift (buop_ok hG ho h) (fun _ h=>h)
  case buildSlice ty len parts=>obtain⟨r,d,h1,h2⟩:=bsop_ok hG ho h;exact⟨r,d,h1,h2,fun h=>by cases h⟩
  case makeSlice ty x y=>obtain⟨r,d,h1,h2⟩:=mkop_ok hG ho h;exact⟨r,d,h1,h2,fun h=>by cases h⟩
  case alloc ty=>
    split at h
    · rename_i e he
      exact⟨_,_,h,alloc_ok hG ho he,fun h=>by cases h⟩
    exact h.elim
  case box ty x=>exact⟨_,_,h.2,box_ok ho h.1,fun h=>by cases h⟩
  case makeFunc fn first cap=>
    unfold mfop at h
    split at h
    · rename_i f hfirst
      refine⟨_,none,h,QOk.pure fun H' hH L Av w ρ hs hops=>?_,fun _=>rfl⟩
      have h0:first=#[]:=by apply Array.ext';simpa using hfirst
      subst h0
      refine⟨.func (.func f) #[] (cap.map ρ),by simp[execOp,ho,Instr.makeFunc],.f _ _ _ (by simp) ?_⟩
      intro k x hk
      simp only[List.getElem?_map,Option.map_eq_some_iff,Array.getElem?_toList]at hk
      obtain⟨y,h1,h2⟩:=hk
      have hm:y∈o.op.operands:=by
        rw[ho];simp only[Op.operands,Array.mem_append]
        exact .inr (Array.mem_of_getElem? h1)
      have:=hops y hm
      rw[←h2]
      simpa[h1]using this
    exact h.elim
  case call c=>
    obtain⟨callee,args,tys⟩:=c
    cases callee with
    | builtin b=>
      cases b<;>simp only at h<;>try exact h.elim
      · split at h
        · rename_i x ty tl ha htl
          have ha':args=#[x]:=by apply Array.ext';simpa using ha
          subst ha'
          have hty:tys[0]? =some ty:=by rw[←Array.getElem?_toList,htl];rfl
          exact lift (capop_ok hG ho hty h) (fun _ h=>h)
        exact h.elim
      split at h
      · rename_i x ty tl ha htl
        have ha':args=#[x]:=by apply Array.ext';simpa using ha
        subst ha'
        have hty:tys[0]? =some ty:=by rw[←Array.getElem?_toList,htl];rfl
        exact lift (lenop_ok hG ho hty h) (fun _ h=>h)
      · exact h.elim
      split at h
      · rename_i x y ha
        have ha':args=#[x,y]:=by apply Array.ext';simpa using ha
        subst ha'
        exact lift (mxop_ok ho h) (fun _ h=>h)
      · exact h.elim
      split at h
      · rename_i x y ha
        have ha':args=#[x,y]:=by apply Array.ext';simpa using ha
        subst ha'
        exact lift (mnop_ok ho h) (fun _ h=>h)
      exact h.elim
    |invoke r m=>exact h.elim
    | value fo=>
      cases fo<;>simp only at h<;>try exact h.elim
      · rename_i n
        unfold fnV at h
        split at h
        · rename_i f cs hv
          obtain⟨r,hr,hk⟩:=h
          refine⟨r,none,hk,?_,fun _=>rfl⟩
          intro H' hH L Av w ρ hs hfn hL hi hops
          obtain⟨he,hrun⟩:=hr.run hH
          have hx:=hops (.tmp n) (by rw[ho];simp[Op.operands,Call.operands])
          rw[hv]at hx
          obtain⟨us,hf,hus⟩:=hx.f_inv
          have h1:=run_enterV he ho hf w
          have h2:=hrun L Av w _ hs hfn ((args_ofV ho hops).append hus)
          unfold QV
          rw[h1]
          exact h2.mono fun e w' ⟨u,h3,h4,h5,h6⟩=>⟨u,h3,r,H',L,⟨rfl,rfl⟩,fun _ _=>rfl,h4,h5,h6⟩
        exact h.elim
      rename_i f
      obtain⟨r,hr,hk⟩:=h
      refine⟨r,none,hk,?_,fun _=>rfl⟩
      intro H' hH L Av w ρ hs hfn hL hi hops
      obtain⟨he,hrun⟩:=hr.run hH
      have hf:ρ (.func f)= .func (.func f) #[] #[]:=(hops (.func f) (by rw[ho];simp[Op.operands,Call.operands])).f0_inv
      have h1:=run_enter he ho hf w
      have h2:=hrun L Av w _ hs hfn (args_of ho hops)
      unfold QV
      rw[h1]
      exact h2.mono fun e w' ⟨u,h3,h4,h5,h6⟩=>⟨u,h3,r,H',L,⟨rfl,rfl⟩,fun _ _=>rfl,h4,h5,h6⟩
theorem qop_ok {P:Program} {Γ:TEnv} (hG:GOk P Γ) {o:Oper} {t:List AV} {H:HP} {id:Nat} {k:AV→Option (List AV)→Prop} (h:qop Γ P o.op t H id k):∃r d,k r d∧QOk P o (evo t) H id r d:=
  let ⟨r,d,h1,h2,_⟩:=qop_ok' hG h
  ⟨r,d,h1,h2⟩
end Go.Proofs.YtghmeeifjeafmaaGreat
