import Derived.Test.YtlcddiojeghfgaaGreatDoorZ13
set_option linter.unusedVariables false
set_option linter.unusedSimpArgs false
namespace Go.Proofs.YtlcddiojeghfgaaGreatDoor
theorem rows_nr (a:List (List Int)):NR (rows a):= .v _ _ (fun k y hk=>by
  obtain⟨z,_,rfl⟩:=List.mem_map.1 (List.mem_of_getElem? hk);exact ints_nr z)
theorem ints_take_map (u:List (List Int)) (k:Nat):List.take k (u.map ints)=(u.take k).map ints:=by rw[List.map_take]
theorem one_rt (u:List (List Int)) (k:Nat):(∀z∈List.take k (u.map ints),one z=true)=True:=by rw[ints_take_map];exact one_r
theorem one_rd (u:List (List Int)) (k n:Nat):(∀z∈List.take n (List.drop k (u.map ints)),one z=true)=True:=by
  refine eq_true (fun z hz=> ?_)
  obtain⟨y,_,rfl⟩:=List.mem_map.1 (List.mem_of_mem_drop (List.mem_of_mem_take hz));rfl
theorem one_is (x:List Int):(∀z∈ [ints x],one z=true)=True:=by
  refine eq_true (fun z hz=> ?_)
  rw[List.mem_singleton.1 hz];rfl
theorem take_tm {u:List AV} {k:Nat}:List.take k (List.take k u)=List.take k u:=by rw[List.take_take,Nat.min_self]
theorem one_v1 (n:Nat) (cs:List AV):(∀z∈ [AV.v n cs],one z=true)=True:=by
  refine eq_true (fun z hz=> ?_)
  rw[List.mem_singleton.1 hz];rfl
theorem take_mt {α:Type} {f:α→AV} {u:List α} {k:Nat}:List.take k (List.map f (List.take k u))=List.map f (List.take k u):=by rw[←List.map_take,List.take_take,Nat.min_self]
attribute [go_sem] one_v1 take_mt one_is one_rt one_rd take_tm List.length_drop
theorem Le.del {H:HP} {j:Nat} (h:H j=none):Le H (upd H j none):=by
  intro i c hi
  by_cases e:i=j
  · subst e;rw[h]at hi;cases hi
  · rw[upd_ne _ _ e];exact hi
theorem Vw.fr {H:HP} {id n:Nat} {xs:List AV} (h:H id=some xs) (hn:xs.length=n):Vw H (.h id 0 n) (.v n xs):=
  .h id 0 n _ _ h (by omega) hn (fun k x y hx hy=>by rw[Nat.zero_add,hy]at hx;cases hx;exact .refl _)
def oA:Option Nat→Nat→AV
  |none,_=> .nl
  |some id,k=> .h id 0 k
def oH (H:HP):Option Nat→List AV→HP
  |none,_=>H
  |some id,cs=>upd H id (some cs)
theorem one_ii (k:IntKind) (n:Int):(∀z∈ [AV.i k n],one z=true)=True:=by
  refine eq_true (fun z hz=> ?_)
  rw[List.mem_singleton.1 hz];rfl
attribute [go_sem] one_ii
def lim (m:Nat) (H:HP):HP:=fun i=>if i<m then H i else none
theorem Vw.oA {H:HP} {o:Option Nat} {n:Nat} {xs:List (List Int)} (h0:o=none→n=0) (hn:n=xs.length):Vw (oH H o (xs.map ints)) (oA o n) (rows xs):=by
  cases o with
  | none=>
    have h1:xs=[]:=List.length_eq_zero_iff.1 (by rw[←hn];exact h0 rfl)
    subst h1;exact .nl
  |some id=>exact Vw.rws hn (upd_same _ _ _)
theorem AW.freezeQ {cX:Ctx} {P:Program} {c:Code} {s:St} {K:Exit→St→Prop} (k id:Nat) (cs:List AV) (hk:s.t[k]? =some (.q id 0)) (hc:s.H id=some cs)
    (hs:AW cX P c ⟨s.t.set k (.p 0 cs),upd s.H id none,s.nx⟩ K):AW cX P c s K:=
  AW.fz (s':=⟨s.t.set k (.p 0 cs),upd s.H id none,s.nx⟩) ⟨fzs_set hk (.q id 0 cs cs hc (upd_same _ _ _) rfl (fun k x y h1 h2=>by rw[h2]at h1;cases h1;exact .refl _)),FzH.del,Nat.le_refl _⟩ hs
theorem tk_map {α β:Type} {f:α→β} {xs:List α}:(xs.map f).take xs.length=xs.map f:=List.take_of_length_le (by rw[List.length_map];exact Nat.le_refl _)
theorem AC.fz {P:Program} {f:FuncId} {nx:Nat} {H H':HP} {xs ts:List AV} {Q:Nat→HP→AV→Prop} (hh:FzH H H') (ha:fzs H H' xs ts) (h:AC P f nx H' ts Q):AC P f nx H xs Q:=by
  refine⟨h.1,fun L Av w us hs hfr hargs=>(h.2 L Av w us (hs.fz hh) hfr ?_).mono ?_⟩
  · obtain⟨h4,h5⟩:=fzs_get ha
    refine⟨by rw[hargs.1,h4],fun k y hk=> ?_⟩
    obtain⟨x,h6,h7⟩:=h5 k y hk
    exact h7.sound hs hh (hargs.2 k x h6)
  · rintro e w' ⟨u,r,L',nx',H2,h1,h2,h3,h4,h5,h6,h7,h8⟩
    exact⟨u,r,L',nx',H2,h1,h2,h3,h4,h5,h6,⟨h7.le,h7.os,h7.tape,h7.output,h7.size,fun b hb hn=>h7.keep b hb (fun hl=>hn (hh.lb hl)),fun b hb hl=>hh.lb (h7.old b hb hl)⟩,h8⟩
theorem Fz.blk {H:HP} {id n:Nat} {cs:List AV} (hc:H id=some cs) (hn:cs.length=n):Fz H (upd H id none) (.h id 0 n) (.v n cs):=
  .h id 0 n cs cs hc (upd_same _ _ _) (by omega) hn (fun k x y h1 h2=>by rw[Nat.zero_add,h2]at h1;cases h1;exact .refl _)
theorem Fz.rws {H:HP} {id n:Nat} {cs:List AV} {W:List (List Int)} (hc:H id=some cs) (he:cs=W.map Go.Proofs.YtlcddiojeghfgaaGreatDoor.ints) (hn:n=W.length):Fz H (upd H id none) (.h id 0 n) (rows W):=by
  subst he hn
  exact Fz.blk hc (by simp)
def oN (H:HP):Option Nat→HP
  |none=>H
  |some id=>upd H id none
structure OutB (nx m:Nat) (o:Option Nat) (rs:List AV) (H:HP) (W:List (List Int)):Prop where
  ex:∃ids,OwL H rs (W.map ints) ids∧ids.Nodup∧(∀i∈ids,nx≤i∧i<m)∧(∀id,o=some id→id∉ids∧nx≤id∧id<m)
  no:o=none→rs=[]
  dom:∀i,m≤i→H i=none
theorem OutB.start {nx m:Nat}:OutB nx m none [] noH []:=⟨⟨[],.nil,by simp,by simp,by simp⟩,fun _=>rfl,fun _ _=>rfl⟩
theorem OutB.len {nx m:Nat} {o:Option Nat} {rs:List AV} {H:HP} {W:List (List Int)} (h:OutB nx m o rs H W):rs.length=W.length:=by
  obtain⟨ids,h1,_⟩:=h.ex
  have:=h1.len
  simpa using this.symm
theorem OutB.more {nx m m':Nat} {o:Option Nat} {rs:List AV} {H:HP} {W:List (List Int)} (h:OutB nx m o rs H W) (hm:m≤m'):OutB nx m' o rs H W:=by
  obtain⟨ids,h1,h2,h4,h5⟩:=h.ex
  exact⟨⟨ids,h1,h2,fun i hi=>⟨(h4 i hi).1,by have:=(h4 i hi).2;omega⟩,fun id hid=>⟨(h5 id hid).1,(h5 id hid).2.1,by have:=(h5 id hid).2.2;omega⟩⟩,h.no,fun i hi=>h.dom i (by omega)⟩
theorem OutB.own {nx m id:Nat} {rs:List AV} {H:HP} {W:List (List Int)} (h:OutB nx m (some id) rs H W):∃ids,Own nx m (upd H id (some rs)) (.h id 0 rs.length) (rows W) ids:=by
  have hl:=h.len
  obtain⟨ids,h1,h2,h4,h5⟩:=h.ex
  obtain⟨q1,q3,q4⟩:=h5 id rfl
  refine⟨id::ids,?_,by simp[q1,h2],?_⟩
  · have:=Ow.h (H:=upd H id (some rs)) id rs (W.map ints) ids (upd_same _ _ _) (h1.keep fun i hi=>by
      rw[upd_ne _ _ (fun e=>q1 (by rw[←e];exact hi))])
    rw[hl]at this ⊢
    exact this
  · intro i hi
    rcases List.mem_cons.1 hi with rfl|hi
    · exact⟨q3,q4⟩
    · exact h4 i hi
theorem OutB.nil {nx m a b:Nat} {rs:List AV} {H H':HP} {W:List (List Int)} (h:OutB nx m none rs H W):Own a b H' .nl (rows W) []:=by
  have h1:=h.no rfl
  have h2:=h.len
  rw[h1]at h2
  have h3:W=[]:=List.length_eq_zero_iff.1 h2.symm
  subst h3
  exact⟨.nl,by simp,by simp⟩
theorem OutB.push {nx m m0 m1 m2 id2:Nat} {o:Option Nat} {rs:List AV} {H H1:HP} {W:List (List Int)} {r1:AV} {X:List Int} {ids1:List Nat} (h:OutB nx m o rs H W)
    (hH:∀i,i<m0→H1 i=oH H o rs i) (ho:Own m0 m1 H1 r1 (ints X) ids1) (hm:m≤id2) (h2:id2<m0) (h01:m0≤m1) (h12:m1≤m2) (hnx:nx≤m):OutB nx m2 (some id2) (rs++[r1]) (lim m1 (oN H1 o)) (W++[X]):=by
  obtain⟨ids,g1,g2,g4,g5⟩:=h.ex
  obtain⟨o1,o2,o3⟩:=ho
  refine⟨⟨ids++ids1,?_,?_,?_,?_⟩,(fun e=>by cases e),fun i hi=>if_neg (by omega)⟩
  · rw[List.map_append]
    refine OwL.append (g1.keep fun i hi=> ?_) ?_
    · have hi2:=g4 i hi
      rw[lim,if_pos (by omega)]
      cases o with
      |none=>simp only[oN];rw[hH i (by omega)];rfl
      | some id=>
        have:=(g5 id rfl).1
        have hne:i≠id:=fun e=>this (by rw[←e];exact hi)
        simp only[oN]
        rw[upd_ne _ _ hne,hH i (by omega)]
        simp only[oH]
        exact upd_ne _ _ hne
    · have hs:OwL (lim m1 (oN H1 o)) [r1] [ints X] (ids1++[]):=OwL.cons _ _ _ _ _ _ (o1.keep fun i hi=>by
        have hi3:=o3 i hi
        rw[lim,if_pos (by omega)]
        cases o with
        |none=>rfl
        | some id=>
          have:=(g5 id rfl).2
          simp only[oN];exact upd_ne _ _ (by omega)) .nil
      rw[List.append_nil]at hs
      exact hs
  · rw[List.nodup_append]
    exact⟨g2,o2,fun a ha b hb' e=>by have:=o3 b hb';have:=g4 a ha;omega⟩
  · intro i hi
    rcases List.mem_append.1 hi with hi|hi
    · have:=g4 i hi;omega
    · have:=o3 i hi;omega
  · rintro id hid
    cases hid
    refine⟨fun hi=> ?_,by omega,by omega⟩
    rcases List.mem_append.1 hi with hi|hi
    · have:=g4 _ hi;omega
    · have:=o3 _ hi;omega
theorem OutB.le {nx m m0 m1 idb id2:Nat} {o:Option Nat} {rs:List AV} {H H1:HP} {W:List (List Int)} {c:Option (List AV)} {xs:List AV} (h:OutB nx m o rs H W)
    (hH:∀i,i<m0→H1 i=oH H o rs i) (hm:m≤idb) (hb0:idb<m0):Le (upd (lim m1 (oN H1 o)) id2 (some xs)) (upd (oN (upd H1 idb c) o) id2 (some xs)):=by
  obtain⟨ids,g1,g2,g4,g5⟩:=h.ex
  have hnone:H1 idb=none:=by
    rw[hH idb hb0]
    cases o with
    |none=>simp only[oH];exact h.dom _ hm
    | some id=>
      have:=g5 id rfl
      simp only[oH];rw[upd_ne _ _ (by omega)];exact h.dom _ hm
  intro i d hi
  by_cases e:i=id2
  · subst e;rw[upd_same]at hi ⊢;exact hi
  · rw[upd_ne _ _ e]at hi ⊢
    unfold lim at hi
    split at hi
    · cases o with
      | none=>
        simp only[oN]at hi ⊢
        by_cases e3:i=idb
        · subst e3;rw[hnone]at hi;cases hi
        · rw[upd_ne _ _ e3];exact hi
      | some id=>
        simp only[oN]at hi ⊢
        by_cases e4:i=id
        · subst e4;rw[upd_same]at hi;cases hi
        · rw[upd_ne _ _ e4]at hi ⊢
          by_cases e3:i=idb
          · subst e3;rw[hnone]at hi;cases hi
          · rw[upd_ne _ _ e3];exact hi
    · cases hi
theorem OutB.id {nx m id:Nat} {o:Option Nat} {rs:List AV} {H:HP} {W:List (List Int)} (h:OutB nx m o rs H W) (ho:o=some id):nx≤id∧id<m:=by
  obtain⟨ids,_,_,_,h5⟩:=h.ex
  exact(h5 id ho).2
theorem Own.lim {a b m:Nat} {H:HP} {r X:AV} {ids:List Nat} (h:Own a b H r X ids) (hb:b≤m):Own a b (lim m H) r X ids:=
  h.keep (fun i _ hi=>if_pos (by omega)) (Nat.le_refl _) (Nat.le_refl _)
theorem AC.frame {P:Program} {f:FuncId} {nx:Nat} {H:HP} {xs:List AV} {Q:Nat→HP→AV→Prop} (h:AC P f nx noH xs Q):AC P f nx H xs fun nx' H' r=>∃H0,Q nx' H0 r∧(∀i,i<nx→H' i=H i)∧∀i,nx≤i→H' i=H0 i:=by
  refine⟨h.1,fun L Av w us hs hfr ha=>(h.2 L (MM L H Av) w us (SR_noH (MM_lt hs)) hfr (by rw[MM_noH];exact ha)).mono ?_⟩
  rintro e w' ⟨u,r,L',nx',H0,h1,h2,h3,h4,h5,h6,h7,h8⟩
  let H2:HP:=fun i=>if i<nx then H i else H0 i
  have hlow:∀i,i<nx→H2 i=H i:=fun i hi=>by simp only[H2,hi,if_true]
  have hhigh:∀i,nx≤i→H2 i=H0 i:=fun i hi=>by simp only[H2];rw[if_neg (by omega)]
  have hk':∀b,b<w.heap.size→w'.heap[b]? =w.heap[b]? :=fun b hb=>h7.keep b hb LB_noH
  have hHn:∀i cs,H i=some cs→i<nx:=fun i cs hi=>by
    apply Classical.byContradiction;intro hn
    obtain⟨l,g1,_⟩:=hs.node i cs hi
    rw[hfr i (by omega)]at g1;cases g1
  have live:∀i cs,H2 i=some cs→(i<nx∧H i=some cs)∨(nx≤i∧H0 i=some cs):=by
    intro i cs hi
    rcases Nat.lt_or_ge i nx with h|h
    · rw[hlow i h]at hi;exact .inl ⟨h,hi⟩
    · rw[hhigh i h]at hi;exact .inr ⟨h,hi⟩
  have newblk:∀i cs l,H0 i=some cs→L' i=some l→w.heap.size≤l.blk:=by
    intro i cs l g1 g2
    apply Classical.byContradiction
    intro hlt
    exact LB_noH (h7.old l.blk (by omega) ⟨i,cs,l,g1,g2,rfl⟩)
  have hlb:∀b,LB L' H2 b→LB L H b∨LB L' H0 b:=by
    rintro b ⟨i,cs,l,g1,g2,g3⟩
    rcases live i cs g1 with ⟨q1,q2⟩|⟨q1,q2⟩
    · exact .inl ⟨i,cs,l,q2,by rw[←h5 i q1];exact g2,g3⟩
    · exact .inr ⟨i,cs,l,q2,g2,g3⟩
  have hMM:∀b,MM L' H2 Av b→MM L' H0 (MM L H Av) b:=by
    rintro b (hb|hb)
    · exact .inl (.inl hb)
    · exact(hlb b hb).elim (fun h=> .inl (.inr h)) .inr
  have hst:Step L H w L' H2 w':=by
    refine⟨h7.le,h7.os,h7.tape,h7.output,h7.size,fun b hb _=>hk' b hb,?_⟩
    rintro b hb hl
    rcases hlb b hl with g|⟨i,cs,l,g1,g2,g3⟩
    · exact g
    · have:=newblk i cs l g1 g2;omega
  refine⟨u,r,L',nx',H2,h1,⟨H0,h2,hlow,hhigh⟩,h3,h4,h5,⟨?_,?_,?_,fun b hb=>Nat.lt_of_lt_of_le (hs.avlt b hb) h7.size⟩,hst,h8.mono (fun _ _ h=>h) (fun _ _ _=>rfl) (fun b _ hb=>hMM b hb)⟩
  · intro i cs hi
    rcases live i cs hi with ⟨g4,g5⟩|⟨g4,g5⟩
    · obtain⟨l,g7,hnd⟩:=hs.node i cs g5
      exact⟨l,by rw[h5 i g4];exact g7,hnd.mono (hk' _ hnd.lt) fun k x hk c g13=>g13.step hst⟩
    · obtain⟨l,g7,hnd⟩:=h6.node i cs g5
      exact⟨l,g7,hnd.mono rfl fun k x hk c g13=>g13.mono (fun _ _ h=>h) (fun _ _ _=>rfl) (fun b _ hb=>hMM b hb)⟩
  · intro i i' cs cs' l l' g1 g2 g3 g4 g5
    rcases live i cs g1 with ⟨q1,q2⟩|⟨q1,q2⟩<;>rcases live i' cs' g2 with ⟨q4,q5⟩|⟨q4,q5⟩
    · exact hs.inj i i' cs cs' l l' q2 q5 (by rw[←h5 i q1];exact g3) (by rw[←h5 i' q4];exact g4) g5
    · have a1:=LB_lt hs ⟨i,cs,l,q2,by rw[←h5 i q1];exact g3,rfl⟩
      have a2:=newblk i' cs' l' q5 g4
      omega
    · have a1:=LB_lt hs ⟨i',cs',l',q5,by rw[←h5 i' q4];exact g4,rfl⟩
      have a2:=newblk i cs l q2 g3
      omega
    · exact h6.inj i i' cs cs' l l' q2 q5 g3 g4 g5
  · intro i cs l g1 g2
    rcases live i cs g1 with ⟨q1,q2⟩|⟨q1,q2⟩
    · exact hs.av i cs l q2 (by rw[←h5 i q1];exact g2)
    · exact fun hv=>h6.av i cs l q2 g2 (.inl hv)
structure OutG (a m:Nat) (id:Nat) (rs:List AV) (H:HP) (X:List AV):Prop where
  ex:∃ids,OwL H rs X ids∧ids.Nodup∧(∀i∈ids,a≤i∧i<m)∧id∉ids
  at':H id=some rs
  lo:a≤id
  hi:id<m
theorem OutG.more {a m m' id:Nat} {rs:List AV} {H:HP} {X:List AV} (h:OutG a m id rs H X) (hm:m≤m'):OutG a m' id rs H X:=by
  obtain⟨⟨ids,h1,h2,h3,h4⟩,h5,h6,h7⟩:=h
  exact⟨⟨ids,h1,h2,fun i hi=>by have:=h3 i hi;omega,h4⟩,h5,h6,by omega⟩
theorem OutG.len {a m id:Nat} {rs:List AV} {H:HP} {X:List AV} (h:OutG a m id rs H X):X.length=rs.length:=by
  obtain⟨⟨ids,h1,_⟩,_⟩:=h
  exact h1.len
theorem OutG.one {a nx m id:Nat} {r X:AV} {H H':HP} {ids:List Nat} (h:Own a nx H r X ids) (hk:∀i,a≤i→i<nx→H' i=H i) (hc:H' id=some [r]) (h1:nx≤id) (h2:id<m) (h3:a≤nx):OutG a m id [r] H' [X]:=by
  obtain⟨g1,g2,g3⟩:=h.keep hk (Nat.le_refl _) (Nat.le_refl _)
  refine⟨⟨ids++[],.cons _ _ _ _ _ _ g1 .nil,by simpa using g2,fun i hi=> ?_,fun hi=> ?_⟩,hc,by omega,h2⟩
  · have:=g3 i (by simpa using hi);omega
  · have:=g3 id (by simpa using hi);omega
theorem OutG.push {a m m1 m2 id id2:Nat} {rs:List AV} {r1 X1:AV} {H H1 H2:HP} {X:List AV} {ids1:List Nat} (h:OutG a m id rs H X) (ho:Own m m1 H1 r1 X1 ids1)
    (h1:∀i,i<m→i≠id→H2 i=H i) (h2:∀i,m≤i→i<m1→H2 i=H1 i) (hc:H2 id2=some (rs++[r1])) (hm:m≤m1) (hi:m1≤id2) (hi2:id2<m2):OutG a m2 id2 (rs++[r1]) H2 (X++[X1]):=by
  obtain⟨⟨ids,g1,g2,g3,g4⟩,g5,g6,g7⟩:=h
  obtain⟨o1,o2,o3⟩:=ho.keep h2 (Nat.le_refl _) (Nat.le_refl _)
  refine⟨⟨ids++(ids1++[]),OwL.append (g1.keep fun i hi=>h1 i (g3 i hi).2 (fun e=>g4 (by rw[←e];exact hi))) (.cons _ _ _ _ _ _ o1 .nil),?_,?_,?_⟩,hc,by omega,hi2⟩
  · rw[List.append_nil,List.nodup_append]
    exact⟨g2,o2,fun x hx y hy e=>by have:=g3 x hx;have:=o3 y hy;omega⟩
  · intro i hi
    rw[List.append_nil]at hi
    rcases List.mem_append.1 hi with hi|hi
    · have:=g3 i hi;omega
    · have:=o3 i hi;omega
  · intro hi
    rw[List.append_nil]at hi
    rcases List.mem_append.1 hi with hi|hi
    · have:=g3 _ hi;omega
    · have:=o3 _ hi;omega
theorem OutG.own {a m id n:Nat} {rs:List AV} {H:HP} {X:List AV} (h:OutG a m id rs H X) (hn:n=rs.length):∃ids,Own a m H (.h id 0 n) (.v X.length X) ids:=by
  have hl:=h.len
  obtain⟨⟨ids,h1,h2,h3,h4⟩,h5,h6,h7⟩:=h
  subst hn
  refine⟨id::ids,?_,List.nodup_cons.2 ⟨h4,h2⟩,?_⟩
  · rw[hl]
    exact Ow.h id rs X ids h5 h1
  · intro i hi
    rcases List.mem_cons.1 hi with rfl|hi
    · exact⟨h6,h7⟩
    · exact h3 i hi
theorem Le.only {H:HP} {id:Nat} {d:Option (List AV)}:Le (upd noH id d) (upd H id d):=by
  intro i c hi
  by_cases e:i=id
  · subst e;rw[upd_same]at hi ⊢;exact hi
  · rw[upd_ne _ _ e]at hi;cases hi
theorem Vw.blk {H:HP} {id n:Nat} {cs:List AV} (hc:H id=some cs) (hn:n=cs.length):Vw H (.h id 0 n) (.v n cs):=by
  subst hn
  exact .h id 0 cs.length cs cs hc (by omega) rfl (fun k x y hx hy=>by rw[Nat.zero_add,hy]at hx;cases hx;exact .refl _)
theorem Vw.t2 {H:HP} {a X:AV} {k:IntKind} {e:Int} (h:Vw H a X):Vw H (.t [a,.i k e]) (.t [X,.i k e]):=by
  refine .t _ _ rfl (fun k x y hx hy=> ?_)
  match k,hx,hy with
  |0,hx,hy=>cases hx;cases hy;exact h
  |1,hx,hy=>cases hx;cases hy;exact .refl _
theorem Vws.rfl {H:HP}:∀{cs:List AV},Vws H cs cs:=by
  intro cs
  induction cs with
  |nil=>exact .nil
  |cons c cs ih=>exact .cons (.refl _) ih
theorem cubes_nr (a:List (List (List Int))):NR (cubes a):= .v _ _ (fun k y hk=>by
  simp only[List.getElem?_map,Option.map_eq_some_iff]at hk
  obtain⟨z,_,rfl⟩:=hk
  exact rows_nr z)
theorem one_list {r:AV} (h:one r=true):(∀z∈ [r],one z=true)=True:=eq_true (fun z hz=>by rw[List.mem_singleton.1 hz];exact h)
theorem AW.nameH {cX:Ctx} {P:Program} {c:Code} {s:St} {K:Exit→St→Prop} (h:∀G,s.H=G→AW cX P c ⟨s.t,G,s.nx⟩ K):AW cX P c s K:=h _ rfl
end Go.Proofs.YtlcddiojeghfgaaGreatDoor
