import Derived.Test.YtghmeeifjeafmaaGreatZ32
import Derived.Test.YtghmeeifjeafmaaGreatZ39
set_option linter.unusedVariables false
set_option linter.unusedSimpArgs false
namespace Go.Proofs.YtghmeeifjeafmaaGreat
theorem OwL.eqI {H:HP}:∀{xs:List Int} {cs:List AV} {ks:List Nat},OwL H cs (xs.map (.i .i64)) ks→cs=xs.map (.i .i64)∧ks=[]:=by
  intro xs
  induction xs with
  |nil=>intro cs ks h;cases h;exact⟨rfl,rfl⟩
  | cons x xs ih=>
    intro cs ks h
    rw[List.map_cons]at h
    cases h with
    | cons y z ys zs is js h1 h2=>
      obtain⟨rfl,rfl⟩:=ih h2
      cases h1
      exact⟨rfl,rfl⟩
theorem Ow.invI {H:HP} {r:AV} {a:List Int} {ids:List Nat} (h:Ow H r (Go.Proofs.YtghmeeifjeafmaaGreat.ints a) ids) (hp:0<a.length):∃id,r= .h id 0 a.length∧ids=[id]∧H id=some (a.map (.i .i64)):=by
  unfold Go.Proofs.YtghmeeifjeafmaaGreat.ints at h
  rcases h.vInv _ _ rfl with ⟨e,_⟩|⟨_,e,_⟩|⟨id,cs,ids',rfl,rfl,g1,g2,g3⟩
  · subst e
    cases h with
    | leaf _ hf hn=>cases a with
      |nil=>simp at hp
      |cons x xs=>cases hf
  · omega
  obtain⟨rfl,rfl⟩:=g3.eqI
  exact⟨id,rfl,rfl,g1⟩
theorem Ow.invV {H:HP} {r:AV} {n:Nat} {ts:List AV} {ids:List Nat} (h:Ow H r (.v n ts) ids) (hp:0<n):∃id cs ids',r= .h id 0 n∧ids=id::ids'∧H id=some cs∧cs.length=n∧OwL H cs ts ids':=by
  rcases h.vInv _ _ rfl with ⟨e,_⟩|⟨_,e,_⟩|h
  · subst e
    cases h with
    |leaf _ hf hn=>cases hf;omega
  · omega
  exact h
theorem set_self {α:Type} {cs:List α} {k:Nat} {d x:α} (hk:k<cs.length) (h:cs.getD k d=x):cs.set k x=cs:=by
  apply List.ext_getElem?
  intro i
  rw[List.getElem?_set]
  split
  · rename_i e
    subst e
    rw[←h,List.getD_eq_getElem?_getD,List.getElem?_eq_getElem hk];rfl
  rfl
theorem Ow.putI {H:HP} {r:AV} {a:List Int} {ids:List Nat} {l:Nat} (h:Ow H r (Go.Proofs.YtghmeeifjeafmaaGreat.ints a) ids) (hl:l<a.length):
    ∃q,r= .h q 0 a.length∧ids=[q]∧H q=some (a.map (.i .i64))∧∀v,Ow (upd H q (some (splice (a.map (.i .i64)) l [.i .i64 v]))) r (Go.Proofs.YtghmeeifjeafmaaGreat.ints (a.set l v)) ids:=by
  obtain⟨q,rfl,rfl,h1⟩:=h.invI (by omega)
  refine⟨q,rfl,rfl,h1,fun v=>Ow.ints ?_ (by simp)⟩
  rw[upd_same,splice1 (by simpa using hl),List.map_set]
theorem Ow.putR {H:HP} {r:AV} {W:List (List Int)} {ids:List Nat} {k l:Nat} (h:Ow H r (rows W) ids) (hnd:ids.Nodup) (hk:k<W.length) (hl:l<(W.getD k []).length):
    ∃ p rs q,r= .h p 0 W.length∧H p=some rs∧rs.length=W.length∧rs.getD k .j= .h q 0 (W.getD k []).length∧H q=some ((W.getD k []).map (.i .i64))∧p∈ids∧q∈ids∧p≠q∧
      ∀v,Ow (upd H q (some (splice ((W.getD k []).map (.i .i64)) l [.i .i64 v]))) r (rows (W.set k ((W.getD k []).set l v))) ids:=by
  unfold rows at h
  obtain⟨p,rs,js,rfl,rfl,h1,h2,h3⟩:=h.invV (by omega)
  obtain⟨il,is,ir,rfl,s1,s2,s3⟩:=h3.cut (a:=k) (by omega)
  rw[gd_r hk]at s2
  obtain⟨q,e,rfl,h4,h5⟩:=s2.putI hl
  obtain⟨hn1,hn2⟩:=List.nodup_cons.1 hnd
  simp only[List.mem_append,List.mem_singleton,not_or]at hn1
  have hqil:q∉il:=by simp only[List.nodup_append,List.mem_append,List.mem_singleton]at hn2;grind
  have hqir:q∉ir:=by simp only[List.nodup_append,List.mem_append,List.mem_singleton]at hn2;grind
  refine⟨p,rs,q,rfl,h1,h2,e,h4,by simp,by simp,fun e2=>hn1.2.1 e2,fun v=>?_⟩
  have s4:=OwL.set (s1.keep fun i hi=>upd_ne _ _ (fun e2=>hqil (by rw[←e2];exact hi))) (h5 v) (s3.keep fun i hi=>upd_ne _ _ (fun e2=>hqir (by rw[←e2];exact hi))) (a:=k) (by omega) (by simpa using hk)
  rw[set_self (by omega) rfl]at s4
  have:=Ow.h p rs _ _ ((upd_ne _ _ (fun e2=>hn1.2.1 e2)).trans h1) s4
  rw[h2]at this
  unfold rows
  rw[List.length_set,List.map_set]
  exact this
theorem Ow.putC {H:HP} {r:AV} {C:List (List (List Int))} {ids:List Nat} {c k l:Nat} (h:Ow H r (cubes C) ids) (hnd:ids.Nodup) (hc:c<C.length) (hk:k<(C.getD c []).length) (hl:l<((C.getD c []).getD k []).length):
    ∃ b bs p rs q,r= .h b 0 C.length∧H b=some bs∧bs.length=C.length∧bs.getD c .j= .h p 0 (C.getD c []).length∧H p=some rs∧rs.length=(C.getD c []).length∧rs.getD k .j= .h q 0 ((C.getD c []).getD k []).length∧H q=some (((C.getD c []).getD k []).map (.i .i64))∧b∈ids∧p∈ids∧q∈ids∧(b≠p∧b≠q∧p≠q)∧
      ∀v,Ow (upd H q (some (splice (((C.getD c []).getD k []).map (.i .i64)) l [.i .i64 v]))) r (cubes (C.set c ((C.getD c []).set k (((C.getD c []).getD k []).set l v)))) ids:=by
  unfold cubes at h
  obtain⟨b,bs,js,rfl,rfl,h1,h2,h3⟩:=h.invV (by omega)
  obtain⟨il,is,ir,rfl,s1,s2,s3⟩:=h3.cut (a:=c) (by omega)
  rw[gd_c hc]at s2
  obtain⟨hn1,hn2⟩:=List.nodup_cons.1 hnd
  have hnis:is.Nodup:=by simp only[List.nodup_append,List.mem_append]at hn2;grind
  obtain⟨p,rs,q,e,h4,h5,h6,h7,hp,hq,hpq,h8⟩:=s2.putR hnis hk hl
  simp only[List.mem_append,not_or]at hn1
  have hqil:q∉il:=by simp only[List.nodup_append,List.mem_append]at hn2;grind
  have hqir:q∉ir:=by simp only[List.nodup_append,List.mem_append]at hn2;grind
  have hbp:b≠p:=fun e2=>hn1.2.1 (by rw[e2];exact hp)
  have hbq:b≠q:=fun e2=>hn1.2.1 (by rw[e2];exact hq)
  refine⟨b,bs,p,rs,q,rfl,h1,h2,e,h4,h5,h6,h7,by simp,by simp[hp],by simp[hq],⟨hbp,hbq,hpq⟩,fun v=>?_⟩
  have s4:=OwL.set (s1.keep fun i hi=>upd_ne _ _ (fun e2=>hqil (by rw[←e2];exact hi))) (h8 v) (s3.keep fun i hi=>upd_ne _ _ (fun e2=>hqir (by rw[←e2];exact hi))) (a:=c) (by omega) (by simpa using hc)
  rw[set_self (by omega) rfl]at s4
  have:=Ow.h b bs _ _ ((upd_ne _ _ hbq).trans h1) s4
  rw[h2]at this
  unfold cubes
  rw[List.length_set,List.map_set]
  exact this
section
variable {a m:Nat} {H:HP} {r P B:AV} {os:List Int} {X:List (List Int)} {Y:List (List (List Int))}
theorem PgO.putO {k:Nat} (h:PgO a m H r P B os X Y) (hk:k<os.length):∃q,r= .h q 0 os.length∧H q=some (os.map (.i .i64))∧(a≤q∧q<m)∧∀v,PgO a m (upd H q (some (splice (os.map (.i .i64)) k [.i .i64 v]))) r P B (os.set k v) X Y:=by
  obtain⟨i0,i1,i2,⟨h0,h1,h2⟩,hnd,hbd⟩:=h
  obtain⟨q,e,rfl,g1,g2⟩:=h0.putI hk
  have n1:q∉i1++i2:=(List.nodup_cons.1 hnd).1
  simp only[List.mem_append,not_or]at n1
  exact⟨q,e,g1,hbd q (by simp),fun v=>⟨[q],i1,i2,⟨g2 v,h1.keep fun i hi=>upd_ne _ _ (fun e2=>n1.1 (by rw[←e2];exact hi)),h2.keep fun i hi=>upd_ne _ _ (fun e2=>n1.2 (by rw[←e2];exact hi))⟩,hnd,hbd⟩⟩
theorem PgO.putR {k l:Nat} (h:PgO a m H r P B os X Y) (hk:k<X.length) (hl:l<(X.getD k []).length):
    ∃ p rs q,P= .h p 0 X.length∧H p=some rs∧rs.length=X.length∧rs.getD k .j= .h q 0 (X.getD k []).length∧H q=some ((X.getD k []).map (.i .i64))∧(a≤p∧p<m)∧(a≤q∧q<m)∧p≠q∧
      ∀v,PgO a m (upd H q (some (splice ((X.getD k []).map (.i .i64)) l [.i .i64 v]))) r P B os (X.set k ((X.getD k []).set l v)) Y:=by
  obtain⟨i0,i1,i2,⟨h0,h1,h2⟩,hnd,hbd⟩:=h
  have hn1:i1.Nodup:=by simp only[List.nodup_append,List.mem_append]at hnd;grind
  obtain⟨p,rs,q,e,g1,g2,g3,g4,g5,g6,g7,g8⟩:=h1.putR hn1 hk hl
  have n0:q∉i0:=by simp only[List.nodup_append,List.mem_append]at hnd;grind
  have n2:q∉i2:=by simp only[List.nodup_append,List.mem_append]at hnd;grind
  exact⟨p,rs,q,e,g1,g2,g3,g4,hbd p (by simp[g5]),hbd q (by simp[g6]),g7,fun v=>⟨i0,i1,i2,⟨h0.keep fun i hi=>upd_ne _ _ (fun e2=>n0 (by rw[←e2];exact hi)),g8 v,h2.keep fun i hi=>upd_ne _ _ (fun e2=>n2 (by rw[←e2];exact hi))⟩,hnd,hbd⟩⟩
theorem PgO.putC {c k l:Nat} (h:PgO a m H r P B os X Y) (hc:c<Y.length) (hk:k<(Y.getD c []).length) (hl:l<((Y.getD c []).getD k []).length):
    ∃ b bs p rs q,B= .h b 0 Y.length∧H b=some bs∧bs.length=Y.length∧bs.getD c .j= .h p 0 (Y.getD c []).length∧H p=some rs∧rs.length=(Y.getD c []).length∧rs.getD k .j= .h q 0 ((Y.getD c []).getD k []).length∧H q=some (((Y.getD c []).getD k []).map (.i .i64))∧(a≤b∧b<m)∧(a≤p∧p<m)∧(a≤q∧q<m)∧(b≠p∧b≠q∧p≠q)∧
      ∀v,PgO a m (upd H q (some (splice (((Y.getD c []).getD k []).map (.i .i64)) l [.i .i64 v]))) r P B os X (Y.set c ((Y.getD c []).set k (((Y.getD c []).getD k []).set l v))):=by
  obtain⟨i0,i1,i2,⟨h0,h1,h2⟩,hnd,hbd⟩:=h
  have hn2:i2.Nodup:=by simp only[List.nodup_append,List.mem_append]at hnd;grind
  obtain⟨b,bs,p,rs,q,e,g1,g2,g3,g4,g5,g6,g7,g8,g9,g10,g11,g12⟩:=h2.putC hn2 hc hk hl
  have n0:q∉i0:=by simp only[List.nodup_append,List.mem_append]at hnd;grind
  have n1:q∉i1:=by simp only[List.nodup_append,List.mem_append]at hnd;grind
  exact⟨b,bs,p,rs,q,e,g1,g2,g3,g4,g5,g6,g7,hbd b (by simp[g8]),hbd p (by simp[g9]),hbd q (by simp[g10]),g11,fun v=>⟨i0,i1,i2,⟨h0.keep fun i hi=>upd_ne _ _ (fun e2=>n0 (by rw[←e2];exact hi)),h1.keep fun i hi=>upd_ne _ _ (fun e2=>n1 (by rw[←e2];exact hi)),g12 v⟩,hnd,hbd⟩⟩
theorem PgO.putB {a' m' k:Nat} {H':HP} {r1:AV} {W:List (List Int)} {is:List Nat} (h:PgO a m H r P B os X Y) (hk:k<Y.length):∃b bs,B= .h b 0 Y.length∧H b=some bs∧bs.length=Y.length∧(a≤b∧b<m)∧
      (Ow H' r1 (rows W) is→is.Nodup→(∀i∈is,(i<a∨m≤i)∧a'≤i∧i<m')→H' b=some (splice bs k [r1])→(∀i,a≤i→i<m→i≠b→H' i=H i)→m≤m'→a'≤a→PgO a' m' H' r P B os X (Y.set k W)):=by
  obtain⟨i0,i1,i2,⟨h0,h1,h2⟩,h3,h4⟩:=h
  unfold cubes at h2
  obtain⟨b,bs,js,rfl,rfl,g1,g2,g3⟩:=h2.invV (by omega)
  refine⟨b,bs,rfl,g1,g2,h4 b (by simp),fun ho hnd hb hp' hkeep hm ham=>?_⟩
  have hn2:(b::js).Nodup:=by simp only[List.nodup_append,List.mem_append]at h3;grind
  obtain⟨w1,w2,l2,l3,w3,w4,w5,w6,w7⟩:=h2.put1 g1 (by omega) ho hp' (fun i hi=>hkeep i (h4 i (by simp only[List.mem_append];exact .inr (.inr hi))).1 (h4 i (by simp only[List.mem_append];exact .inr (.inr hi))).2) hn2
  have hne:∀i,i∈i0∨i∈i1→i≠b:=by
    intro i hi e
    subst e
    simp only[List.nodup_append,List.nodup_cons,List.mem_append,List.mem_cons]at h3
    grind
  refine⟨i0,i1,b::(l2++(is++l3)),⟨h0.keep fun i hi=>hkeep i (h4 i (by simp[hi])).1 (h4 i (by simp[hi])).2 (hne i (.inl hi)),h1.keep fun i hi=>hkeep i (h4 i (by simp[hi])).1 (h4 i (by simp[hi])).2 (hne i (.inr hi)),?_⟩,?_,?_⟩
  · unfold cubes
    rw[List.length_set,List.map_set];exact w7
  · have h5:∀i∈i0++(i1++b::js),a≤i∧i<m:=h4
    simp only[List.nodup_append,List.nodup_cons,List.mem_append,List.mem_cons]at h3 h5 w3 w5 w6 ⊢
    grind
  intro i hi
  simp only[List.mem_append,List.mem_cons]at hi h4 w3
  grind
theorem PgO.setO {a' m':Nat} {H':HP} {r1:AV} {os1:List Int} {is:List Nat} (h:PgO a m H r P B os X Y) (ho:Ow H' r1 (ints os1) is) (hnd:is.Nodup) (hb:∀i∈is,(i<a∨m≤i)∧a'≤i∧i<m') (hkeep:∀i,a≤i→i<m→bk r≠i+1→H' i=H i) (hr:isH r=true) (hm:m≤m') (ham:a'≤a):PgO a' m' H' r1 P B os1 X Y:=by
  obtain⟨i0,i1,i2,⟨h0,h1,h2⟩,h3,h4⟩:=h
  have hne:∀i,i∈i1∨i∈i2→bk r≠i+1:=by
    intro i hi e
    have:i∈i0:=by
      unfold Go.Proofs.YtghmeeifjeafmaaGreat.ints at h0
      rcases h0.vInv _ _ rfl with ⟨rfl,_⟩|⟨rfl,_⟩|⟨q,cs,ids',rfl,rfl,_⟩
      · cases hr
      · cases e
      simp only[bk]at e;simp;omega
    simp only[List.nodup_append,List.mem_append]at h3
    grind
  refine⟨is,i1,i2,⟨ho,h1.keep fun i hi=>hkeep i (h4 i (by simp[hi])).1 (h4 i (by simp[hi])).2 (hne i (.inl hi)),h2.keep fun i hi=>hkeep i (h4 i (by simp[hi])).1 (h4 i (by simp[hi])).2 (hne i (.inr hi))⟩,?_,?_⟩
  · have h5:∀i∈i0++(i1++i2),a≤i∧i<m:=h4
    simp only[List.nodup_append,List.mem_append]at h3 h5 ⊢
    grind
  intro i hi
  simp only[List.mem_append]at hi h4
  grind
theorem PgO.fz {n:Nat} (h:PgO a m H r P B os X Y) (hn:n≤a):Fz H (blw n H) (.g [r,P,B]) (prs os X Y):=by
  obtain⟨i0,i1,i2,⟨h0,h1,h2⟩,h3,h4⟩:=h
  have hz:∀i∈i0++(i1++i2),blw n H i=none:=fun i hi=>blw_ge (by have:=h4 i hi;omega)
  refine .g _ _ rfl fun k x y hx hy=>?_
  match k,hx,hy with
  |0,hx,hy=>cases hx;cases hy;exact h0.fzTo fun i hi=>hz i (by simp[hi])
  |1,hx,hy=>cases hx;cases hy;exact h1.fzTo fun i hi=>hz i (by simp[hi])
  |2,hx,hy=>cases hx;cases hy;exact h2.fzTo fun i hi=>hz i (by simp[hi])
theorem PgO.ones (h:PgO a m H r P B os X Y):one r=true∧one P=true∧one B=true:=by
  obtain⟨i0,i1,i2,⟨h0,h1,h2⟩,h3,h4⟩:=h
  exact⟨h0.slice.2.1,h1.slice.2.1,h2.slice.2.1⟩
end
end Go.Proofs.YtghmeeifjeafmaaGreat
