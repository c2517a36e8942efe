import Derived.Test.YtlcddiojeghfgaaGreatDoorZ31
set_option linter.unusedVariables false
set_option linter.unusedSimpArgs false
namespace Go.Proofs.YtlcddiojeghfgaaGreatDoor
theorem splice1 {cs:List AV} {k:Nat} {x:AV} (h:k<cs.length):splice cs k [x]=cs.set k x:=by
  rw[splice,List.set_eq_take_append_cons_drop,if_pos h];simp
theorem Ow.put1 {H H':HP} {p k n:Nat} {rs ts:List AV} {ids is:List Nat} {r X:AV} (h:Ow H (.h p 0 n) (.v n ts) ids) (hp:H p=some rs) (hk:k<rs.length) (ho:Ow H' r X is) (hp':H' p=some (splice rs k [r])) (hkeep:∀i∈ids,i≠p→H' i=H i) (hnd:ids.Nodup):
    rs.length=n∧ts.length=n∧∃l2 l3,(∀i∈l2++l3,i∈ids)∧p∈ids∧p∉l2++l3∧(l2++l3).Nodup∧Ow H' (.h p 0 n) (.v n (ts.set k X)) (p::(l2++(is++l3))):=by
  rcases h.vInv _ _ rfl with ⟨e,_⟩|⟨e,_⟩|⟨id,cs2,ids',e,rfl,g1,g2,g3⟩
  · cases e
  · cases e
  · injection e with e1 e2 e3
    subst e1
    rw[hp]at g1;cases g1
    have hlen:=g3.len
    obtain⟨hn1,hn2⟩:=List.nodup_cons.1 hnd
    obtain⟨il,ia,ir,rfl,s1,s2,s3⟩:=(g3.keep (H':=H') (fun i hi=>hkeep i (by simp[hi]) (fun e=>hn1 (by rw[←e];exact hi)))).cut (a:=k) hk
    have s4:=OwL.set s1 ho s3 hk (by omega)
    have:=Ow.h p _ _ _ hp' (by rw[splice1 hk];exact s4)
    rw[splice1 hk,List.length_set,g2]at this
    refine⟨g2,by omega,il,ir,fun i hi=> ?_,by simp,?_,?_,this⟩
    · simp only[List.mem_append,List.mem_cons]at hi ⊢;grind
    · simp only[List.mem_append,not_or]at hn1 ⊢;grind
    · simp only[List.nodup_append,List.mem_append]at hn2 ⊢;grind
theorem PgO.rowP {a m:Nat} {H:HP} {r P B:AV} {os:List Int} {X:List (List Int)} {Y:List (List (List Int))} {b c:Nat} {cs:List AV} (h:PgO a m H r P B os X Y) (hP:LC H b c P cs) (hX:0<X.length):∃p,P= .h p 0 X.length∧H p=some cs∧cs.length=X.length∧a≤p∧p<m:=by
  obtain⟨i0,i1,i2,⟨h0,h1,h2⟩,h3,h4⟩:=h
  rw[rows_v]at h1
  rcases h1.lc hP with ⟨_,_,e,_⟩|⟨q,ids',rfl,g1,g2,rfl,g3⟩
  · rw[List.length_map]at e;omega
  · rw[List.length_map]at g2
    exact⟨q,by rw[g2],g1,g2.symm,h4 q (by simp)⟩
theorem PgO.setP {a a' m m' p k n:Nat} {H H':HP} {r B r1:AV} {os:List Int} {X:List (List Int)} {Y:List (List (List Int))} {rs:List AV} {x:List Int} {is:List Nat} (h:PgO a m H r (.h p 0 n) B os X Y) (hp:H p=some rs) (hk:k<rs.length) (hn:n=X.length) (ho:Ow H' r1 (ints x) is) (hnd:is.Nodup) (hb:∀i∈is,(i<a∨m≤i)∧a'≤i∧i<m')
    (hp':H' p=some (splice rs k [r1])) (hkeep:∀i,a≤i→i<m→i≠p→H' i=H i) (hm:m≤m') (ham:a'≤a):PgO a' m' H' r (.h p 0 n) B os (X.set k x) Y:=by
  subst hn
  obtain⟨i0,i1,i2,⟨h0,h1,h2⟩,h3,h4⟩:=h
  unfold rows at h1
  have hn1:i1.Nodup:=by grind
  obtain⟨g1,g2,l2,l3,g3,g4,g5,g6,g7⟩:=h1.put1 hp hk ho hp' (fun i hi=>hkeep i (h4 i (by simp[hi])).1 (h4 i (by simp[hi])).2) hn1
  have hne:∀i,i∈i0∨i∈i2→i≠p:=by
    intro i hi e
    subst e
    grind
  refine⟨i0,p::(l2++(is++l3)),i2,⟨h0.keep fun i hi=>hkeep i (h4 i (by simp[hi])).1 (h4 i (by simp[hi])).2 (hne i (.inl hi)),?_,h2.keep fun i hi=>hkeep i (h4 i (by simp[hi])).1 (h4 i (by simp[hi])).2 (hne i (.inr hi))⟩,?_,?_⟩
  · unfold rows
    rw[List.length_set,List.map_set];exact g7
  · have h5:∀i∈i0++(i1++i2),a≤i∧i<m:=h4
    simp only[List.nodup_append,List.nodup_cons,List.mem_append,List.mem_cons]at h3 h5 g3 g5 g6 ⊢
    grind
  · intro i hi
    simp only[List.mem_append,List.mem_cons]at hi h4 g3
    grind
theorem PgO.rowB {a m k:Nat} {H:HP} {r P B:AV} {os:List Int} {X:List (List Int)} {Y:List (List (List Int))} {b c:Nat} {cs:List AV} (h:PgO a m H r P B os X Y) (hB:LC H b c B cs) (hk:k<Y.length) (hl:0<(Y.getD k []).length) (hih:isH (cs.getD k .j)=true):
    ∃b q ds,B= .h b 0 Y.length∧H b=some cs∧cs.length=Y.length∧(a≤b∧b<m)∧cs.getD k .j= .h q 0 (Y.getD k []).length∧H q=some ds∧ds.length=(Y.getD k []).length∧(a≤q∧q<m)∧q≠b:=by
  obtain⟨i0,i1,i2,⟨h0,h1,h2⟩,h3,h4⟩:=h
  rw[cubes_v]at h2
  rcases h2.lc hB with ⟨_,_,e,_⟩|⟨b1,ids',rfl,g1,g2,rfl,g3⟩
  · rw[List.length_map]at e;omega
  · rw[List.length_map]at g2
    obtain⟨il,ia,ir,rfl,s1,s2,s3⟩:=g3.cut (a:=k) (by omega)
    rw[gd_c hk]at s2
    unfold rows at s2
    rcases s2.vInv _ _ rfl with ⟨e,_⟩|⟨_,e,_⟩|⟨q,ds,ls,e,rfl,t1,t2,t3⟩
    · rw[e]at hih;cases hih
    · omega
    · refine⟨b1,q,ds,by rw[g2],g1,g2.symm,h4 b1 (by simp),e,t1,t2,h4 q (by simp),?_⟩
      grind
theorem PgO.setB {a a' m m' b q k l n:Nat} {H H':HP} {r P r1:AV} {os:List Int} {X:List (List Int)} {Y:List (List (List Int))} {cs ds:List AV} {x:List Int} {is:List Nat} (h:PgO a m H r P (.h b 0 n) os X Y) (hb0:H b=some cs) (hk:k<cs.length) (hn:n=Y.length) (hq:cs.getD k .j= .h q 0 (Y.getD k []).length) (hd:H q=some ds) (hl:l<ds.length) (ho:Ow H' r1 (ints x) is) (hnd:is.Nodup) (hb:∀i∈is,(i<a∨m≤i)∧a'≤i∧i<m')
    (hq':H' q=some (splice ds l [r1])) (hkeep:∀i,a≤i→i<m→i≠q→H' i=H i) (hm:m≤m') (ham:a'≤a):PgO a' m' H' r P (.h b 0 n) os X (Y.set k ((Y.getD k []).set l x)):=by
  subst hn
  obtain⟨i0,i1,i2,⟨h0,h1,h2⟩,h3,h4⟩:=h
  unfold cubes at h2
  rcases h2.vInv _ _ rfl with ⟨e,_⟩|⟨e,_⟩|⟨b1,cs1,ids',e,rfl,g1,g2,g3⟩
  · cases e
  · cases e
  injection e with e1 e2 e3
  subst e1
  rw[hb0]at g1;cases g1
  have hn2:(b::ids').Nodup:=by grind
  obtain⟨hn3,hn4⟩:=List.nodup_cons.1 hn2
  obtain⟨il,ia,ir,rfl,s1,s2,s3⟩:=g3.cut (a:=k) hk
  rw[gd_c (by omega),hq]at s2
  unfold rows at s2
  have hna:ia.Nodup:=by grind
  have hia:∀i∈ia,a≤i∧i<m:=fun i hi=>h4 i (by simp[hi])
  obtain⟨w1,w2,l2,l3,w3,w4,w5,w6,w7⟩:=s2.put1 hd hl ho hq' (fun i hi hne=>hkeep i (hia i hi).1 (hia i hi).2 hne) hna
  have hoth:∀i,i∈i0∨i∈i1∨i=b∨i∈il∨i∈ir→i≠q:=by
    intro i hi e
    subst e
    simp only[List.nodup_append,List.nodup_cons,List.mem_append,List.mem_cons,not_or]at h3
    grind
  have hall:∀i,i∈i0∨i∈i1∨i=b∨i∈il∨i∈ir→H' i=H i:=by
    intro i hi
    have h5:a≤i∧i<m:=h4 i (by simp only[List.mem_append,List.mem_cons];grind)
    exact hkeep i h5.1 h5.2 (hoth i hi)
  have v4:=OwL.set (s1.keep fun i hi=>hall i (by simp[hi])) w7 (s3.keep fun i hi=>hall i (by simp[hi])) hk (by simp;omega)
  have hset:cs.set k (.h q 0 (Y.getD k []).length)=cs:=by
    apply List.ext_getElem?
    intro i
    rw[List.getElem?_set]
    split
    · rename_i e
      subst e
      rw[←hq,List.getD_eq_getElem?_getD,List.getElem?_eq_getElem hk];rfl
    · rfl
  rw[hset]at v4
  have v5:=Ow.h b _ _ _ ((hall b (by simp)).trans hb0) v4
  refine⟨i0,i1,b::(il++(q::(l2++(is++l3))++ir)),⟨h0.keep fun i hi=>hall i (by simp[hi]),h1.keep fun i hi=>hall i (by simp[hi]),?_⟩,?_,?_⟩
  · rw[g2]at v5
    unfold cubes
    rw[List.length_set,List.map_set]
    have e9:rows ((Y.getD k []).set l x)= .v (Y.getD k []).length (((Y.getD k []).map ints).set l (ints x)):=by unfold rows;rw[List.length_set,List.map_set]
    rw[e9];exact v5
  · have h5:∀i∈i0++(i1++b::(il++(ia++ir))),a≤i∧i<m:=h4
    simp only[List.nodup_append,List.nodup_cons,List.mem_append,List.mem_cons]at h3 h5 w3 w5 w6 ⊢
    grind
  · intro i hi
    simp only[List.mem_append,List.mem_cons]at hi h4 w3
    grind
theorem PgO.blk {a m b c b' c' p q:Nat} {H:HP} {r P B:AV} {os:List Int} {X:List (List Int)} {Y:List (List (List Int))} {cs cs':List AV} (h:PgO a m H r P B os X Y) (hP:LC H b c P cs) (hB:LC H b' c' B cs') (hp:bk P=p+1) {k:Nat} (hk:k<cs'.length) (hq:bk (cs'.getD k .j)=q+1):p≠q∧bk B≠p+1∧bk B≠q+1:=by
  obtain⟨i0,i1,i2,⟨h0,h1,h2⟩,h3,h4⟩:=h
  have g1:=h1.bk_in hP hp
  unfold cubes at h2
  rcases h2.lc hB with ⟨_,rfl,_⟩|⟨b1,ids',rfl,g2,g3,rfl,g4⟩
  · simp at hk
  · obtain⟨il,ia,ir,rfl,s1,s2,s3⟩:=g4.cut (a:=k) hk
    have hqi:q∈ia:=by
      generalize hc:cs'.getD k .j=C at s2 hq
      generalize (Y.map rows).getD k .j=Z at s2
      cases s2 with
      |leaf _ hf hn=>cases C<;>simp only[bk]at hq<;>first|omega|(cases hn)
      |nl=>cases hq
      |h id cs ts ids' g1 g2=>simp only[bk]at hq;simp;omega
      |q=>cases hq
      |g=>cases hq
      |t=>cases hq
    simp only[bk]
    simp only[List.nodup_append,List.nodup_cons,List.mem_append,List.mem_cons,not_or]at h3
    refine⟨?_,?_,?_⟩<;>grind
theorem PgW.setP {a m k:Nat} {H:HP} {r P B:AV} {os:List Int} {X:List (List Int)} {Y:List (List (List Int))} {cp cb:List AV} (h:PgW a m H r P B os X Y cp cb) (hk:k<X.length):∃p,P= .h p 0 X.length∧H p=some cp∧cp.length=X.length∧(a≤p∧p<m)∧
    ∀(H':HP) (r1:AV) (x:List Int) (is:List Nat) (a' m':Nat),Ow H' r1 (ints x) is→is.Nodup→(∀i∈is,(i<a∨m≤i)∧a'≤i∧i<m')→H' p=some (splice cp k [r1])→(∀i,a≤i→i<m→i≠p→H' i=H i)→m≤m'→a'≤a→PgW a' m' H' r P B os (X.set k x) Y (splice cp k [r1]) cb:=by
  obtain⟨h1,h2,h3,h4⟩:=h
  obtain⟨p,rfl,hp,hl,p1,p2⟩:=h1.rowP h2 (by omega)
  refine⟨p,rfl,hp,hl,⟨p1,p2⟩,fun H' r1 x is a' m' g1 g2 g3 g4 g5 g6 g7=>⟨h1.setP hp (by omega) rfl g1 g2 g3 g4 g5 g6 g7,?_,?_,h4⟩⟩
  · exact .mk g4 (by rw[splice_len (by simp;omega)];exact hl.symm) (by omega) (by omega)
  · have hne:bk B≠p+1:=by
      have:=h1.ne h2 h3
      rw[show bk (.h p 0 X.length)=p+1 from rfl]at this
      omega
    exact(h3.keep1 (fun i hi=>g5 i (by have:=h3.bd;omega) (by have:=h3.bd;omega) (fun e=>hne (by rw[←e];exact hi)))).wide g7 g6
theorem PgW.setB {a m k l:Nat} {H:HP} {r P B:AV} {os:List Int} {X:List (List Int)} {Y:List (List (List Int))} {cp cb:List AV} (h:PgW a m H r P B os X Y cp cb) (hk:k<Y.length) (hl:l<(Y.getD k []).length):∃b q ds,B= .h b 0 Y.length∧H b=some cb∧cb.length=Y.length∧(a≤b∧b<m)∧cb.getD k .j= .h q 0 (Y.getD k []).length∧H q=some ds∧ds.length=(Y.getD k []).length∧(a≤q∧q<m)∧q≠b∧
    ∀(H':HP) (r1:AV) (x:List Int) (is:List Nat) (a' m':Nat),Ow H' r1 (ints x) is→is.Nodup→(∀i∈is,(i<a∨m≤i)∧a'≤i∧i<m')→H' q=some (splice ds l [r1])→(∀i,a≤i→i<m→i≠q→H' i=H i)→m≤m'→a'≤a→PgW a' m' H' r P B os X (Y.set k ((Y.getD k []).set l x)) cp cb:=by
  obtain⟨h1,h2,h3,h4⟩:=h
  have hlen:k<cb.length:=by
    obtain⟨i0,i1,i2,⟨g0,g1,g2⟩,_⟩:=id h1
    rw[cubes_v]at g2
    rcases g2.lc h3 with ⟨_,_,e,_⟩|⟨_,_,_,_,e,_⟩<;>rw[List.length_map]at e<;>omega
  have hcell:isH (cb.getD k .j)=true:=h4 _ (by rw[List.getD_eq_getElem?_getD,List.getElem?_eq_getElem hlen];exact List.getElem_mem _)
  obtain⟨b,q,ds,rfl,hb,hcl,b12,hq,hd,hdl,q12,hqb⟩:=h1.rowB h3 hk (by omega) hcell
  refine⟨b,q,ds,rfl,hb,hcl,b12,hq,hd,hdl,q12,hqb,fun H' r1 x is a' m' g1 g2 g3 g4 g5 g6 g7=>⟨h1.setB hb hlen rfl hq hd (by omega) g1 g2 g3 g4 g5 g6 g7,?_,?_,h4⟩⟩
  · refine(h2.keep1 (fun i hi=>g5 i (by have:=h2.bd;omega) (by have:=h2.bd;omega) (fun e=> ?_))).wide g7 g6
    have:=h1.blk h2 h3 hi hlen (q:=q) (by rw[hq];rfl)
    exact this.1 e
  · exact .mk (by rw[g5 b b12.1 b12.2 (fun e=>hqb e.symm)];exact hb) hcl.symm (by omega) (by omega)
end Go.Proofs.YtlcddiojeghfgaaGreatDoor
