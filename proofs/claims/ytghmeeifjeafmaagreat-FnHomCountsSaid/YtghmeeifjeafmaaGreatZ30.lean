import Derived.Test.YtghmeeifjeafmaaGreatZ17
set_option linter.unusedVariables false
set_option linter.unusedSimpArgs false
namespace Go.Proofs.YtghmeeifjeafmaaGreat
theorem AW.name {cX:Ctx} {P:Program} {c:Code} {s:St} {K:Exit→St→Prop} (h:∀N:St→Prop,(∀s',K .normal s'→N s')→AW cX P c s (thn K N)):AW cX P c s K:=
  (h _ (fun _ h=>h)).mono (fun e s' h=>by cases e<;>exact h)
def bk:AV→Nat
  | .h id _ _=>id+1
  |_=>0
def LC (H:HP) (a b:Nat) (L:AV) (cs:List AV):Prop:=(L= .nl∧cs=[])∨∃id,L= .h id 0 cs.length∧H id=some cs∧a≤id∧id<b
def dl (H:HP):AV→HP
  | .h id _ _=>upd H id none
  |_=>H
theorem LC.bd {H:HP} {a b:Nat} {L:AV} {cs:List AV} (h:LC H a b L cs):bk L=0∨(a+1≤bk L∧bk L≤b):=by
  rcases h with ⟨rfl,_⟩|⟨id,rfl,_,h1,h2⟩
  · exact .inl rfl
  right;simp only[bk];omega
theorem LC.one {H:HP} {a b:Nat} {L:AV} {cs:List AV} (h:LC H a b L cs):one L=true:=by
  rcases h with ⟨rfl,_⟩|⟨id,rfl,_,h1,h2⟩<;>rfl
theorem LC.cells {H:HP} {a b:Nat} {L:AV} {cs:List AV} (h:LC H a b L cs):cellsA L=[L]∧okA L=true:=by
  rcases h with ⟨rfl,_⟩|⟨id,rfl,_,h1,h2⟩<;>exact⟨rfl,rfl⟩
theorem LC.len {H:HP} {a b:Nat} {L:AV} {cs:List AV} (h:LC H a b L cs):lenA L=cs.length:=by
  rcases h with ⟨rfl,rfl⟩|⟨id,rfl,_,h1,h2⟩<;>rfl
theorem LC.upd {H:HP} {a b i:Nat} {L:AV} {cs:List AV} {c:Option (List AV)} (hi:i<a∨b≤i) (h:LC H a b L cs):LC (upd H i c) a b L cs:=by
  rcases h with h|⟨id,rfl,h0,h1,h2⟩
  · exact .inl h
  exact .inr ⟨id,rfl,by rw[upd_ne _ _ (by omega)];exact h0,h1,h2⟩
theorem LC.keep {H H':HP} {a b:Nat} {L:AV} {cs:List AV} (h:LC H a b L cs) (hk:∀i,a≤i→i<b→H' i=H i):LC H' a b L cs:=by
  rcases h with h|⟨id,rfl,h0,h1,h2⟩
  · exact .inl h
  exact .inr ⟨id,rfl,by rw[hk _ h1 h2];exact h0,h1,h2⟩
theorem LC.keep1 {H H':HP} {a b:Nat} {L:AV} {cs:List AV} (h:LC H a b L cs) (hk:∀i,bk L=i+1→H' i=H i):LC H' a b L cs:=by
  rcases h with h|⟨id,rfl,h0,h1,h2⟩
  · exact .inl h
  exact .inr ⟨id,rfl,by rw[hk _ rfl];exact h0,h1,h2⟩
theorem LC.wide {H:HP} {a b a' b':Nat} {L:AV} {cs:List AV} (h:LC H a b L cs) (h1:a'≤a) (h2:b≤b'):LC H a' b' L cs:=by
  rcases h with h|⟨id,rfl,h0,h3,h4⟩
  · exact .inl h
  exact .inr ⟨id,rfl,h0,by omega,by omega⟩
theorem LC.mk {H:HP} {a b id:Nat} {cs:List AV} {n:Nat} (h:H id=some cs) (hn:n=cs.length) (h1:a≤id) (h2:id<b):LC H a b (.h id 0 n) cs:=by subst hn;exact .inr ⟨id,rfl,h,h1,h2⟩
theorem LC.nil {H:HP} {a b:Nat}:LC H a b .nl []:= .inl ⟨rfl,rfl⟩
theorem dl_ne {H:HP} {L:AV} {i:Nat} (h:bk L≠i+1):dl H L i=H i:=by
  cases L<;>simp only[dl]
  rename_i id o n
  simp only[bk]at h
  exact upd_ne _ _ (by omega)
theorem apst_LC {a b:Nat} {L:AV} {cs:List AV} {H:HP} {x:AV} {xs:List AV} {id:Nat} {k:AV→HP→Prop} (h:LC H a b L cs):apst H L (x::xs) id k=k (.h id 0 (cs.length+(xs.length+1))) (Go.Proofs.YtghmeeifjeafmaaGreat.upd (dl H L) id (some (cs++x::xs))):=by
  rcases h with ⟨rfl,rfl⟩|⟨q,rfl,h0,h1,h2⟩
  · simp[apst,dl]
  simp only[apst,h0,dl,ex1_some];simp
theorem cne {x:AV} {xs:List AV}:(x::xs≠ [])=True:=eq_true (by simp)
theorem OwL.cut {H:HP}:∀{rs Xs:List AV} {ids:List Nat},OwL H rs Xs ids→∀{a:Nat},a<rs.length→∃il is ir,ids=il++(is++ir)∧OwL H (rs.take a) (Xs.take a) il∧Ow H (rs.getD a .j) (Xs.getD a .j) is∧OwL H (rs.drop (a+1)) (Xs.drop (a+1)) ir:=by
  intro rs
  induction rs with
  |nil=>intro Xs ids h a ha;simp at ha
  | cons c rs ih=>
    intro Xs ids h a ha
    cases h with
    | cons x y xs ys is js h1 h2=>
      cases a with
      |zero=>exact⟨[],is,js,rfl,.nil,h1,by simpa using h2⟩
      | succ a=>
        obtain⟨il,is',ir,rfl,g1,g2,g3⟩:=ih h2 (a:=a) (by simpa using ha)
        exact⟨is++il,is',ir,by simp,.cons _ _ _ _ _ _ h1 g1,by simpa using g2,by simpa using g3⟩
theorem OwL.set {H:HP} {rs Xs:List AV} {il is ir:List Nat} {a:Nat} {r X:AV} (h1:OwL H (rs.take a) (Xs.take a) il) (h2:Ow H r X is) (h3:OwL H (rs.drop (a+1)) (Xs.drop (a+1)) ir) (ha:a<rs.length) (hX:a<Xs.length):OwL H (rs.set a r) (Xs.set a X) (il++(is++ir)):=by
  rw[List.set_eq_take_append_cons_drop,if_pos ha,List.set_eq_take_append_cons_drop,if_pos hX]
  exact OwL.append h1 (.cons _ _ _ _ _ _ h2 h3)
theorem Ow.vInv {H:HP} {r Z:AV} {ids:List Nat} (h:Ow H r Z ids):∀n ts,Z= .v n ts→(r=Z∧ids=[])∨(r= .nl∧n=0∧ts=[]∧ids=[])∨∃id cs ids',r= .h id 0 n∧ids=id::ids'∧H id=some cs∧cs.length=n∧OwL H cs ts ids':=by
  intro n ts hZ
  cases h with
  |leaf _ hf hn=>exact .inl ⟨rfl,rfl⟩
  |nl=>cases hZ;exact .inr (.inl ⟨rfl,rfl,rfl,rfl⟩)
  |h id cs ts' ids' g1 g2=>cases hZ;exact .inr (.inr ⟨id,cs,ids',rfl,rfl,g1,rfl,g2⟩)
  |q=>cases hZ
  |g=>cases hZ
  |t=>cases hZ
theorem Ow.lc {H:HP} {a b:Nat} {L:AV} {cs ts:List AV} {ids:List Nat} {n:Nat} (h:Ow H L (.v n ts) ids) (hL:LC H a b L cs):(L= .nl∧cs=[]∧n=0∧ts=[]∧ids=[])∨∃id ids',L= .h id 0 cs.length∧H id=some cs∧n=cs.length∧ids=id::ids'∧OwL H cs ts ids':=by
  rcases hL with ⟨rfl,rfl⟩|⟨q,rfl,h0,h1,h2⟩
  · rcases h.vInv _ _ rfl with ⟨e,_⟩|⟨_,rfl,rfl,rfl⟩|⟨id,cs,ids',e,_⟩
    · cases e
    · exact .inl ⟨rfl,rfl,rfl,rfl,rfl⟩
    cases e
  rcases h.vInv _ _ rfl with ⟨e,_⟩|⟨e,_⟩|⟨id,cs2,ids',e,rfl,g1,g2,g3⟩
  · cases e
  · cases e
  injection e with e1 e2 e3
  subst e1
  rw[h0]at g1;cases g1
  exact .inr ⟨q,ids',rfl,h0,e3.symm,rfl,g3⟩
theorem Ow.more {H H':HP} {a b:Nat} {L:AV} {cs ts:List AV} {ids:List Nat} {id:Nat} {r X:AV} {is:List Nat} (h:Ow H L (.v ts.length ts) ids) (hL:LC H a b L cs) (ho:Ow H' r X is) (hnew:H' id=some (cs++[r])) (hk:∀i∈ids,bk L≠i+1→H' i=H i) (hnd:ids.Nodup):
    ∃ids',Ow H' (.h id 0 (cs.length+1)) (.v (ts++[X]).length (ts++[X])) (id::(ids'++is))∧(∀i∈ids',i∈ids)∧ids'.Nodup∧cs.length=ts.length:=by
  rcases h.lc hL with ⟨rfl,rfl,_,rfl,rfl⟩|⟨q,ids2,rfl,h0,hl,rfl,g2⟩
  · have:=Ow.h id [r] [X] (is++[]) (by simpa using hnew) (.cons _ _ _ _ _ _ ho .nil)
    exact⟨[],by simpa using this,by simp,by simp,rfl⟩
  have hql:=List.nodup_cons.1 hnd
  have g3:=g2.keep (H':=H') (fun i hi=>hk i (by simp[hi]) (by simp only[bk];intro e;exact hql.1 (by rw[show q=i by omega];exact hi)))
  have:=Ow.h id (cs++[r]) (ts++[X]) (ids2++(is++[])) hnew (OwL.append g3 (.cons _ _ _ _ _ _ ho .nil))
  refine⟨ids2,?_,fun i hi=>by simp[hi],hql.2,hl.symm⟩
  rw[List.append_nil]at this
  simpa[hl]using this
def OLi (a m:Nat) (H:HP) (L:AV) (cs X:List AV):Prop:=LC H a m L cs∧∃ids,Ow H L (.v X.length X) ids∧ids.Nodup∧∀i∈ids,a≤i∧i<m
theorem OLi.empty {a m id:Nat} {H:HP} (h:H id=some []) (h1:a≤id) (h2:id<m):OLi a m H (.h id 0 0) [] []:=⟨.mk h rfl h1 h2,[id],.h id [] [] [] h .nil,by simp,by simp;omega⟩
theorem OLi.keep {a m m':Nat} {H H':HP} {L:AV} {cs X:List AV} (h:OLi a m H L cs X) (hk:∀i,a≤i→i<m→H' i=H i) (hm:m≤m'):OLi a m' H' L cs X:=by
  obtain⟨h1,ids,h2,h3,h4⟩:=h
  exact⟨(h1.keep hk).wide (Nat.le_refl _) hm,ids,h2.keep fun i hi=>hk i (h4 i hi).1 (h4 i hi).2,h3,fun i hi=>by have:=h4 i hi;omega⟩
theorem OLi.len {a m:Nat} {H:HP} {L:AV} {cs X:List AV} (h:OLi a m H L cs X):cs.length=X.length:=by
  obtain⟨h1,ids,h2,h3,h4⟩:=h
  rcases h2.lc h1 with ⟨_,rfl,_,rfl,_⟩|⟨_,_,_,_,e,_⟩
  · rfl
  exact e.symm
theorem OLi.push {a m m':Nat} {H H':HP} {L:AV} {cs X:List AV} {id:Nat} {r Y:AV} {is:List Nat} (h:OLi a m H L cs X) (ho:Ow H' r Y is) (hnd:is.Nodup) (hb:∀i∈is,m≤i∧i<m') (hnew:H' id=some (cs++[r])) (hid:m≤id∧id<m') (hni:id∉is) (ham:a≤m)
    (hk:∀i,a≤i→i<m→bk L≠i+1→H' i=H i):OLi a m' H' (.h id 0 (cs.length+1)) (cs++[r]) (X++[Y]):=by
  obtain⟨h1,ids,h2,h3,h4⟩:=h
  obtain⟨ids',g1,g2,g3,g4⟩:=h2.more h1 ho hnew (fun i hi=>hk i (h4 i hi).1 (h4 i hi).2) h3
  refine⟨.mk hnew (by simp) (by omega) hid.2,_,g1,?_,?_⟩
  · rw[List.nodup_cons,List.nodup_append]
    refine⟨?_,g3,hnd,?_⟩
    · intro hm
      rcases List.mem_append.1 hm with hm|hm
      · have:=h4 _ (g2 _ hm);omega
      exact hni hm
    intro x hx y hy e
    have:=h4 _ (g2 _ hx);have:=hb _ hy;omega
  intro i hi
  rcases List.mem_cons.1 hi with rfl|hi
  · omega
  rcases List.mem_append.1 hi with hi|hi
  · have:=h4 _ (g2 _ hi);omega
  have:=hb _ hi;omega
def PgO (a m:Nat) (H:HP) (r P B:AV) (os:List Int) (X:List (List Int)) (Y:List (List (List Int))):Prop:=
  ∃i0 i1 i2,(Ow H r (ints os) i0∧Ow H P (rows X) i1∧Ow H B (cubes Y) i2)∧(i0++(i1++i2)).Nodup∧∀i∈i0++(i1++i2),a≤i∧i<m
theorem PgO.keep {a m m':Nat} {H H':HP} {r P B:AV} {os:List Int} {X:List (List Int)} {Y:List (List (List Int))} (h:PgO a m H r P B os X Y) (hk:∀i,a≤i→i<m→H' i=H i) (hm:m≤m'):PgO a m' H' r P B os X Y:=by
  obtain⟨i0,i1,i2,⟨h0,h1,h2⟩,h3,h4⟩:=h
  have k:∀i,i∈i0++(i1++i2)→H' i=H i:=fun i hi=>hk i (h4 i hi).1 (h4 i hi).2
  exact⟨i0,i1,i2,⟨h0.keep fun i hi=>k i (by simp[hi]),h1.keep fun i hi=>k i (by simp[hi]),h2.keep fun i hi=>k i (by simp[hi])⟩,h3,fun i hi=>by have:=h4 i hi;omega⟩
theorem PgO.own {a m:Nat} {H:HP} {r P B:AV} {os:List Int} {X:List (List Int)} {Y:List (List (List Int))} (h:PgO a m H r P B os X Y):∃ids,Own a m H (.g [r,P,B]) (Go.Proofs.YtghmeeifjeafmaaGreat.prs os X Y) ids:=by
  obtain⟨i0,i1,i2,⟨h0,h1,h2⟩,h3,h4⟩:=h
  exact⟨_,.g _ _ _ (.cons _ _ _ _ _ _ h0 (.cons _ _ _ _ _ _ h1 (.cons _ _ _ _ _ _ h2 .nil))),by simpa using h3,by simpa using h4⟩
theorem rows_v (X:List (List Int)):rows X= .v (X.map ints).length (X.map ints):=by rw[rows,List.length_map]
theorem cubes_v (Y:List (List (List Int))):cubes Y= .v (Y.map rows).length (Y.map rows):=by rw[cubes,List.length_map]
theorem Ow.bk_in {H:HP} {a b:Nat} {L:AV} {cs ts:List AV} {ids:List Nat} {n:Nat} (h:Ow H L (.v n ts) ids) (hL:LC H a b L cs) {i:Nat} (hi:bk L=i+1):i∈ids:=by
  rcases h.lc hL with ⟨rfl,_⟩|⟨q',ids',rfl,_,_,rfl,_⟩
  · cases hi
  simp only[bk]at hi;simp;omega
theorem PgO.ne {a m b c b' c':Nat} {H:HP} {r P B:AV} {os:List Int} {X:List (List Int)} {Y:List (List (List Int))} {cs cs':List AV} (h:PgO a m H r P B os X Y) (hP:LC H b c P cs) (hB:LC H b' c' B cs'):bk P=0∨bk P≠bk B:=by
  obtain⟨i0,i1,i2,⟨h0,h1,h2⟩,h3,h4⟩:=h
  by_cases e:bk P=0
  · exact .inl e
  right
  intro e2
  have g1:=h1.bk_in hP (i:=bk P-1) (by omega)
  have g2:=h2.bk_in hB (i:=bk P-1) (by omega)
  grind
theorem PgO.pushP {a m m':Nat} {H H':HP} {r P B:AV} {os:List Int} {X:List (List Int)} {Y:List (List (List Int))} {b c:Nat} {cs:List AV} {id:Nat} {r1:AV} {x:List Int} {is:List Nat} (h:PgO a m H r P B os X Y) (hL:LC H b c P cs) (ho:Ow H' r1 (ints x) is) (hnd:is.Nodup) (hb:∀i∈is,m≤i∧i<m')
    (hnew:H' id=some (cs++[r1])) (hid:m≤id∧id<m') (hni:id∉is) (ham:a≤m) (hk:∀i,a≤i→i<m→bk P≠i+1→H' i=H i):PgO a m' H' r (.h id 0 (cs.length+1)) B os (X++[x]) Y:=by
  obtain⟨i0,i1,i2,⟨h0,h1,h2⟩,h3,h4⟩:=h
  rw[rows_v]at h1
  have hn1:i1.Nodup:=by grind
  obtain⟨ids',g1,g2,g3,g4⟩:=h1.more hL ho hnew (fun i hi=>hk i (h4 i (by simp[hi])).1 (h4 i (by simp[hi])).2) hn1
  have hbk:∀i,i∈i0∨i∈i2→bk P≠i+1:=by
    intro i hi e
    rcases hL with ⟨rfl,_⟩|⟨q,rfl,q0,q1,q2⟩
    · simp only[bk]at e;omega
    simp only[bk]at e
    have hq:q∈i1:=by
      rcases h1.lc (.inr ⟨q,rfl,q0,q1,q2⟩)with ⟨e,_⟩|⟨q',ids',e,_,_,rfl,_⟩
      · cases e
      injection e with e1;subst e1;simp
    have:q=i:=by omega
    subst this
    grind
  refine⟨i0,id::(ids'++is),i2,⟨h0.keep fun i hi=>hk i (h4 i (by simp[hi])).1 (h4 i (by simp[hi])).2 (hbk i (.inl hi)),?_,h2.keep fun i hi=>hk i (h4 i (by simp[hi])).1 (h4 i (by simp[hi])).2 (hbk i (.inr hi))⟩,?_,?_⟩
  · rw[rows_v,List.map_append];exact g1
  · have h5:∀i∈i0++(i1++i2),i<m:=fun i hi=>(h4 i hi).2
    simp only[List.nodup_append,List.nodup_cons,List.mem_append,List.mem_cons]at h3 h5 ⊢
    grind
  intro i hi
  simp only[List.mem_append,List.mem_cons]at hi h4
  grind
theorem PgO.pushB {a m m':Nat} {H H':HP} {r P B:AV} {os:List Int} {X:List (List Int)} {Y:List (List (List Int))} {b c:Nat} {cs:List AV} {id:Nat} {r1:AV} {x:List (List Int)} {is:List Nat} (h:PgO a m H r P B os X Y) (hL:LC H b c B cs) (ho:Ow H' r1 (rows x) is) (hnd:is.Nodup) (hb:∀i∈is,m≤i∧i<m')
    (hnew:H' id=some (cs++[r1])) (hid:m≤id∧id<m') (hni:id∉is) (ham:a≤m) (hk:∀i,a≤i→i<m→bk B≠i+1→H' i=H i):PgO a m' H' r P (.h id 0 (cs.length+1)) os X (Y++[x]):=by
  obtain⟨i0,i1,i2,⟨h0,h1,h2⟩,h3,h4⟩:=h
  rw[cubes_v]at h2
  have hn1:i2.Nodup:=by grind
  obtain⟨ids',g1,g2,g3,g4⟩:=h2.more hL ho hnew (fun i hi=>hk i (h4 i (by simp[hi])).1 (h4 i (by simp[hi])).2) hn1
  have hbk:∀i,i∈i0∨i∈i1→bk B≠i+1:=by
    intro i hi e
    rcases hL with ⟨rfl,_⟩|⟨q,rfl,q0,q1,q2⟩
    · simp only[bk]at e;omega
    simp only[bk]at e
    have hq:q∈i2:=by
      rcases h2.lc (.inr ⟨q,rfl,q0,q1,q2⟩)with ⟨e,_⟩|⟨q',ids',e,_,_,rfl,_⟩
      · cases e
      injection e with e1;subst e1;simp
    have:q=i:=by omega
    subst this
    grind
  refine⟨i0,i1,id::(ids'++is),⟨h0.keep fun i hi=>hk i (h4 i (by simp[hi])).1 (h4 i (by simp[hi])).2 (hbk i (.inl hi)),h1.keep fun i hi=>hk i (h4 i (by simp[hi])).1 (h4 i (by simp[hi])).2 (hbk i (.inr hi)),?_⟩,?_,?_⟩
  · rw[cubes_v,List.map_append];exact g1
  · have h5:∀i∈i0++(i1++i2),i<m:=fun i hi=>(h4 i hi).2
    simp only[List.nodup_append,List.nodup_cons,List.mem_append,List.mem_cons]at h3 h5 ⊢
    grind
  intro i hi
  simp only[List.mem_append,List.mem_cons]at hi h4
  grind
theorem PgO.wide {a a' m m':Nat} {H:HP} {r P B:AV} {os:List Int} {X:List (List Int)} {Y:List (List (List Int))} (h:PgO a m H r P B os X Y) (ha:a'≤a) (hm:m≤m'):PgO a' m' H r P B os X Y:=by
  obtain⟨i0,i1,i2,h0,h3,h4⟩:=h
  exact⟨i0,i1,i2,h0,h3,fun i hi=>by have:=h4 i hi;omega⟩
def isH:AV→Bool
  | .nl=>true
  | .h _ 0 _=>true
  |_=>false
theorem LC.isH {H:HP} {a b:Nat} {L:AV} {cs:List AV} (h:LC H a b L cs):isH L=true:=by
  rcases h with ⟨rfl,_⟩|⟨id,rfl,_,h1,h2⟩<;>rfl
theorem isH_app {cs:List AV} {L:AV} (h:∀x∈cs,isH x=true) (hL:isH L=true):∀x∈cs++[L],isH x=true:=by
  intro y hy
  rcases List.mem_append.1 hy with hy|hy
  · exact h y hy
  rw[List.mem_singleton.1 hy];exact hL
def PgW (a m:Nat) (H:HP) (r P B:AV) (os:List Int) (X:List (List Int)) (Y:List (List (List Int))) (cp cb:List AV):Prop:=PgO a m H r P B os X Y∧LC H a m P cp∧LC H a m B cb∧∀x∈cb,Go.Proofs.YtghmeeifjeafmaaGreat.isH x=true
theorem PgW.keep {a m m':Nat} {H H':HP} {r P B:AV} {os:List Int} {X:List (List Int)} {Y:List (List (List Int))} {cp cb:List AV} (h:PgW a m H r P B os X Y cp cb) (hk:∀i,a≤i→i<m→H' i=H i) (hm:m≤m'):PgW a m' H' r P B os X Y cp cb:=
  ⟨h.1.keep hk hm,(h.2.1.keep hk).wide (Nat.le_refl _) hm,(h.2.2.1.keep hk).wide (Nat.le_refl _) hm,h.2.2.2⟩
theorem PgW.wide {a a' m m':Nat} {H:HP} {r P B:AV} {os:List Int} {X:List (List Int)} {Y:List (List (List Int))} {cp cb:List AV} (h:PgW a m H r P B os X Y cp cb) (ha:a'≤a) (hm:m≤m'):PgW a' m' H r P B os X Y cp cb:=
  ⟨h.1.wide ha hm,h.2.1.wide ha hm,h.2.2.1.wide ha hm,h.2.2.2⟩
theorem PgW.r0 {a m:Nat} {H:HP} {r P B:AV} {os:List Int} {X:List (List Int)} {Y:List (List (List Int))} {cp cb:List AV} (h:PgW a m H r P B os X Y cp cb):one r=true:=by
  obtain⟨i0,i1,i2,⟨h0,_⟩,_⟩:=h.1
  exact one_ow h0
end Go.Proofs.YtghmeeifjeafmaaGreat
