import Derived.Test.YtgknbnkmilddhaaGreatZ08
import Derived.Test.YtgknbnkmilddhaaGreatZ09
set_option linter.unusedVariables false
set_option linter.unusedSimpArgs false

namespace Go.Proofs.YtgknbnkmilddhaaGreat
theorem AW.name{cX:Ctx}{P:Program}{c:Code}{s:St}{K:Exit->St->Prop}(h:∀N:St->Prop,(∀s',K .normal s'->N s')->AW cX P c s (qW K N)):AW cX P c s K:=
  (h _ (λ_ h=>h)).mono (λe s' h=>by cases e<;>exact h)
def bk:AV->Nat
  | .h id _ _=>id+1
  |_=>0
def LC(H:HP)(a b:Nat)(L:AV)(cs:List AV):Prop:=(L= .nl/\cs=[])\/∃id,L= .h id 0 cs.length/\H id=some cs/\a<=id/\id<b
def dl(H:HP):AV->HP
  | .h id _ _=>AT H id none
  |_=>H
theorem LC.bd{H:HP}{a b:Nat}{L:AV}{cs:List AV}(h:LC H a b L cs):bk L=0\/(a+1<=bk L/\bk L<=b):=by
  rcases h with ⟨rfl,_⟩|⟨id,rfl,_,h1,h2⟩
  · exact .inl rfl
  right;simp only[bk];omega
theorem LC.one{H:HP}{a b:Nat}{L:AV}{cs:List AV}(h:LC H a b L cs):one L=true:=by
  rcases h with ⟨rfl,_⟩|⟨id,rfl,_,h1,h2⟩<;>rfl
theorem LC.cells{H:HP}{a b:Nat}{L:AV}{cs:List AV}(h:LC H a b L cs):CN L=[L]/\fU L=true:=by
  rcases h with ⟨rfl,_⟩|⟨id,rfl,_,h1,h2⟩<;>exact⟨rfl,rfl⟩
theorem LC.len{H:HP}{a b:Nat}{L:AV}{cs:List AV}(h:LC H a b L cs):fY L=cs.length:=by
  rcases h with ⟨rfl,rfl⟩|⟨id,rfl,_,h1,h2⟩<;>rfl
theorem LC.AT{H:HP}{a b i:Nat}{L:AV}{cs:List AV}{c:Option (List AV)}(hi:i<a\/b<=i)(h:LC H a b L cs):LC (AT H i c) a b L cs:=by
  rcases h with h|⟨id,rfl,h0,h1,h2⟩
  · exact .inl h
  exact .inr ⟨id,rfl,by rw[A1 _ _ A0];exact h0,h1,h2⟩
theorem LC.AJ{H H':HP}{a b:Nat}{L:AV}{cs:List AV}(h:LC H a b L cs)(hk:∀i,a<=i->i<b->H' i=H i):LC H' a b L cs:=by
  rcases h with h|⟨id,rfl,h0,h1,h2⟩
  · exact .inl h
  exact .inr ⟨id,rfl,by rw[hk _ h1 h2];exact h0,h1,h2⟩
theorem LC.OZ{H H':HP}{a b:Nat}{L:AV}{cs:List AV}(h:LC H a b L cs)(hk:∀i,bk L=i+1->H' i=H i):LC H' a b L cs:=by
  rcases h with h|⟨id,rfl,h0,h1,h2⟩
  · exact .inl h
  exact .inr ⟨id,rfl,by rw[hk _ rfl];exact h0,h1,h2⟩
theorem LC.wide{H:HP}{a b a' b':Nat}{L:AV}{cs:List AV}(h:LC H a b L cs)(h1:a'<=a)(h2:b<=b'):LC H a' b' L cs:=by
  rcases h with h|⟨id,rfl,h0,h3,h4⟩
  · exact .inl h
  exact .inr ⟨id,rfl,h0,A0,A0⟩
theorem LC.mk{H:HP}{a b id:Nat}{cs:List AV}{n:Nat}(h:H id=some cs)(hn:n=cs.length)(h1:a<=id)(h2:id<b):LC H a b (.h id 0 n) cs:=by subst hn;exact .inr ⟨id,rfl,h,h1,h2⟩
theorem LC.nil{H:HP}{a b:Nat}:LC H a b .nl []:= .inl ⟨rfl,rfl⟩
theorem AY{H:HP}{L:AV}{i:Nat}(h:bk L≠i+1):dl H L i=H i:=by
  cases L<;>simp only[dl]
  rename_i id o n;simp only[bk]at h;exact A1 _ _ A0
theorem BP{a b:Nat}{L:AV}{cs:List AV}{H:HP}{x:AV}{xs:List AV}{id:Nat}{k:AV->HP->Prop}(h:LC H a b L cs):U9 H L (x::xs) id k=k (.h id 0 (cs.length+(xs.length+1))) (Go.Proofs.YtgknbnkmilddhaaGreat.AT (dl H L) id (some (cs++x::xs))):=by
  rcases h with ⟨rfl,rfl⟩|⟨q,rfl,h0,h1,h2⟩
  · simp[U9,dl]
  simp only[U9,h0,dl,nE];simp
theorem Lu{x:AV}{xs:List AV}:(x::xs≠ [])=True:=eq_true AB
theorem IH.cut{H:HP}:∀{rs Xs:List AV} {ids:List Nat},IH H rs Xs ids->∀{a:Nat},a<rs.length->∃il is ir,ids=il++(is++ir)/\IH H (rs.take a) (Xs.take a) il/\Ow H (rs.getD a .j) (Xs.getD a .j) is/\IH H (rs.drop (a+1)) (Xs.drop (a+1)) ir:=by
  intro rs;induction rs with
  |nil=>intro Xs ids h a ha;simp at ha
  | cons c rs ih=>
    intro Xs ids h a ha;cases h with
    | cons x y xs ys is js h1 h2=>
      cases a with
      |zero=>exact⟨[],is,js,rfl,.nil,h1,by simpa using h2⟩
      | succ a=>
        obtain⟨il,is',ir,rfl,g1,g2,g3⟩:=ih h2 (a:=a) (by simpa using ha);exact⟨is++il,is',ir,AB,.cons _ _ _ _ _ _ h1 g1,by simpa using g2,by simpa using g3⟩
theorem IH.set{H:HP}{rs Xs:List AV}{il is ir:List Nat}{a:Nat}{r X:AV}(h1:IH H (rs.take a) (Xs.take a) il)(h2:Ow H r X is)(h3:IH H (rs.drop (a+1)) (Xs.drop (a+1)) ir)(ha:a<rs.length)(hX:a<Xs.length):IH H (rs.set a r) (Xs.set a X) (il++(is++ir)):=by
  rw[List.set_eq_take_append_cons_drop,if_pos ha,List.set_eq_take_append_cons_drop,if_pos hX];exact IH.append h1 (.cons _ _ _ _ _ _ h2 h3)
theorem Ow.dM{H:HP}{r Z:AV}{ids:List Nat}(h:Ow H r Z ids):∀n ts,Z= .v n ts->(r=Z/\ids=[])\/(r= .nl/\n=0/\ts=[]/\ids=[])\/∃id cs CU,r= .h id 0 n/\ids=id::CU/\H id=some cs/\cs.length=n/\IH H cs ts CU:=by
  intro n ts hZ;cases h with
  |leaf _ hf hn=>exact .inl ⟨rfl,rfl⟩
  |nl=>cases hZ;exact .inr (.inl ⟨rfl,rfl,rfl,rfl⟩)
  |h id cs ts' CU g1 g2=>cases hZ;exact .inr (.inr ⟨id,cs,CU,rfl,rfl,g1,rfl,g2⟩)
  |q=>cases hZ
  |g=>cases hZ
  |t=>cases hZ
theorem Ow.lc{H:HP}{a b:Nat}{L:AV}{cs ts:List AV}{ids:List Nat}{n:Nat}(h:Ow H L (.v n ts) ids)(hL:LC H a b L cs):(L= .nl/\cs=[]/\n=0/\ts=[]/\ids=[])\/∃id CU,L= .h id 0 cs.length/\H id=some cs/\n=cs.length/\ids=id::CU/\IH H cs ts CU:=by
  rcases hL with ⟨rfl,rfl⟩|⟨q,rfl,h0,h1,h2⟩
  · rcases h.dM _ _ rfl with ⟨e,_⟩|⟨_,rfl,rfl,rfl⟩|⟨id,cs,CU,e,_⟩
    · cases e
    · exact .inl ⟨rfl,rfl,rfl,rfl,rfl⟩
    cases e
  rcases h.dM _ _ rfl with ⟨e,_⟩|⟨e,_⟩|⟨id,cs2,CU,e,rfl,g1,g2,g3⟩
  · cases e
  · cases e
  injection e with e1 e2 e3
  subst e1;rw[h0]at g1;cases g1;exact .inr ⟨q,CU,rfl,h0,e3.symm,rfl,g3⟩
theorem Ow.more{H H':HP}{a b:Nat}{L:AV}{cs ts:List AV}{ids:List Nat}{id:Nat}{r X:AV}{is:List Nat}(h:Ow H L (.v ts.length ts) ids)(hL:LC H a b L cs)(ho:Ow H' r X is)(UA:H' id=some (cs++[r]))(hk:∀i∈ids,bk L≠i+1->H' i=H i)(D0:ids.Nodup):
    ∃CU,Ow H' (.h id 0 (cs.length+1)) (.v (ts++[X]).length (ts++[X])) (id::(CU++is))/\(∀i∈CU,i∈ids)/\CU.Nodup/\cs.length=ts.length:=by
  rcases h.lc hL with ⟨rfl,rfl,_,rfl,rfl⟩|⟨q,A71,rfl,h0,hl,rfl,g2⟩
  · have:=Ow.h id [r] [X] (is++[]) (by simpa using UA) (.cons _ _ _ _ _ _ ho .nil);exact⟨[],by simpa using this,AB,AB,rfl⟩
  have nY:=List.nodup_cons.1 D0;have g3:=g2.AJ (H':=H') (λi hi=>hk i (by simp[hi]) (by simp only[bk];intro e;exact nY.1 (by rw[show q=i by omega];exact hi)));have:=Ow.h id (cs++[r]) (ts++[X]) (A71++(is++[])) UA (IH.append g3 (.cons _ _ _ _ _ _ ho .nil));refine⟨A71,?_,λi hi=>by simp[hi],nY.2,hl.symm⟩;rw[List.append_nil]at this;simpa[hl]using this
def gN(a m:Nat)(H:HP)(L:AV)(cs X:List AV):Prop:=LC H a m L cs/\∃ids,Ow H L (.v X.length X) ids/\ids.Nodup/\∀i∈ids,a<=i/\i<m
theorem gN.empty{a m id:Nat}{H:HP}(h:H id=some [])(h1:a<=id)(h2:id<m):gN a m H (.h id 0 0) [] []:=⟨.mk h rfl h1 h2,[id],.h id [] [] [] h .nil,AB,by simp;omega⟩
theorem gN.AJ{a m m':Nat}{H H':HP}{L:AV}{cs X:List AV}(h:gN a m H L cs X)(hk:∀i,a<=i->i<m->H' i=H i)(hm:m<=m'):gN a m' H' L cs X:=by
  obtain⟨h1,ids,h2,h3,h4⟩:=h;exact⟨(h1.AJ hk).wide (Nat.le_refl _) hm,ids,h2.AJ λi hi=>hk i (h4 i hi).1 (h4 i hi).2,h3,λi hi=>by have:=h4 i hi;omega⟩
theorem gN.len{a m:Nat}{H:HP}{L:AV}{cs X:List AV}(h:gN a m H L cs X):cs.length=X.length:=by
  obtain⟨h1,ids,h2,h3,h4⟩:=h;rcases h2.lc h1 with ⟨_,rfl,_,rfl,_⟩|⟨_,_,_,_,e,_⟩
  · rfl
  exact e.symm
theorem gN.push{a m m':Nat}{H H':HP}{L:AV}{cs X:List AV}{id:Nat}{r Y:AV}{is:List Nat}(h:gN a m H L cs X)(ho:Ow H' r Y is)(D0:is.Nodup)(hb:∀i∈is,m<=i/\i<m')(UA:H' id=some (cs++[r]))(DS:m<=id/\id<m')(hni:id∉is)(Ux:a<=m)
    (hk:∀i,a<=i->i<m->bk L≠i+1->H' i=H i):gN a m' H' (.h id 0 (cs.length+1)) (cs++[r]) (X++[Y]):=by
  obtain⟨h1,ids,h2,h3,h4⟩:=h;obtain⟨CU,g1,g2,g3,g4⟩:=h2.more h1 ho UA (λi hi=>hk i (h4 i hi).1 (h4 i hi).2) h3;refine⟨.mk UA AB A0 DS.2,_,g1,?_,?_⟩
  · rw[List.nodup_cons,List.nodup_append];refine⟨?_,g3,D0,?_⟩
    · intro hm;rcases List.mem_append.1 hm with hm|hm
      · have:=h4 _ (g2 _ hm);omega
      exact hni hm
    intro x hx y hy e;have:=h4 _ (g2 _ hx);have:=hb _ hy;omega
  intro i hi;rcases List.mem_cons.1 hi with rfl|hi
  · omega
  rcases List.mem_append.1 hi with hi|hi
  · have:=h4 _ (g2 _ hi);omega
  have:=hb _ hi;omega
def EB(a m:Nat)(H:HP)(r P B:AV)(os:List Int)(X:List (List Int))(Y:List (List (List Int))):Prop:=
  ∃i0 i1 i2,(Ow H r (ints os) i0/\Ow H P (rows X) i1/\Ow H B (A6 Y) i2)/\(i0++(i1++i2)).Nodup/\∀i∈i0++(i1++i2),a<=i/\i<m
theorem EB.AJ{a m m':Nat}{H H':HP}{r P B:AV}{os:List Int}{X:List (List Int)}{Y:List (List (List Int))}(h:EB a m H r P B os X Y)(hk:∀i,a<=i->i<m->H' i=H i)(hm:m<=m'):EB a m' H' r P B os X Y:=by
  obtain⟨i0,i1,i2,⟨h0,h1,h2⟩,h3,h4⟩:=h;have k:∀i,i∈i0++(i1++i2)->H' i=H i:=λi hi=>hk i (h4 i hi).1 (h4 i hi).2
  exact⟨i0,i1,i2,⟨h0.AJ λi hi=>k i (by simp[hi]),h1.AJ λi hi=>k i (by simp[hi]),h2.AJ λi hi=>k i (by simp[hi])⟩,h3,λi hi=>by have:=h4 i hi;omega⟩
theorem EB.own{a m:Nat}{H:HP}{r P B:AV}{os:List Int}{X:List (List Int)}{Y:List (List (List Int))}(h:EB a m H r P B os X Y):∃ids,Own a m H (.g [r,P,B]) (Go.Proofs.YtgknbnkmilddhaaGreat.AP os X Y) ids:=by
  obtain⟨i0,i1,i2,⟨h0,h1,h2⟩,h3,h4⟩:=h;exact⟨_,.g _ _ _ (.cons _ _ _ _ _ _ h0 (.cons _ _ _ _ _ _ h1 (.cons _ _ _ _ _ _ h2 .nil))),by simpa using h3,by simpa using h4⟩
theorem IU(X:List (List Int)):rows X= .v (X.map ints).length (X.map ints):=by rw[rows,List.length_map]
theorem ON(Y:List (List (List Int))):A6 Y= .v (Y.map rows).length (Y.map rows):=by rw[A6,List.length_map]
theorem Ow.iY{H:HP}{a b:Nat}{L:AV}{cs ts:List AV}{ids:List Nat}{n:Nat}(h:Ow H L (.v n ts) ids)(hL:LC H a b L cs){i:Nat}(hi:bk L=i+1):i∈ids:=by
  rcases h.lc hL with ⟨rfl,_⟩|⟨q',CU,rfl,_,_,rfl,_⟩
  · cases hi
  simp only[bk]at hi;simp;omega
theorem EB.ne{a m b c b' c':Nat}{H:HP}{r P B:AV}{os:List Int}{X:List (List Int)}{Y:List (List (List Int))}{cs CT:List AV}(h:EB a m H r P B os X Y)(hP:LC H b c P cs)(hB:LC H b' c' B CT):bk P=0\/bk P≠bk B:=by
  obtain⟨i0,i1,i2,⟨h0,h1,h2⟩,h3,h4⟩:=h;by_cases e:bk P=0
  · exact .inl e
  right
  intro e2;have g1:=h1.iY hP (i:=bk P-1) A0;have g2:=h2.iY hB (i:=bk P-1) A0;grind
theorem EB.A72{a m m':Nat}{H H':HP}{r P B:AV}{os:List Int}{X:List (List Int)}{Y:List (List (List Int))}{b c:Nat}{cs:List AV}{id:Nat}{r1:AV}{x:List Int}{is:List Nat}(h:EB a m H r P B os X Y)(hL:LC H b c P cs)(ho:Ow H' r1 (ints x) is)(D0:is.Nodup)(hb:∀i∈is,m<=i/\i<m')
    (UA:H' id=some (cs++[r1])) (DS:m<=id/\id<m') (hni:id∉is) (Ux:a<=m) (hk:∀i,a<=i->i<m->bk P≠i+1->H' i=H i):EB a m' H' r (.h id 0 (cs.length+1)) B os (X++[x]) Y:=by
  obtain⟨i0,i1,i2,⟨h0,h1,h2⟩,h3,h4⟩:=h;rw[IU]at h1;have mI:i1.Nodup:=by grind
  obtain⟨CU,g1,g2,g3,g4⟩:=h1.more hL ho UA (λi hi=>hk i (h4 i (by simp[hi])).1 (h4 i (by simp[hi])).2) mI;have jQ:∀i,i∈i0\/i∈i2->bk P≠i+1:=by
    intro i hi e;rcases hL with ⟨rfl,_⟩|⟨q,rfl,q0,q1,q2⟩
    · simp only[bk]at e;omega
    simp only[bk]at e;have hq:q∈i1:=by
      rcases h1.lc (.inr ⟨q,rfl,q0,q1,q2⟩)with ⟨e,_⟩|⟨q',CU,e,_,_,rfl,_⟩
      · cases e
      injection e with e1;subst e1;simp
    have:q=i:=A0;subst this;grind
  refine⟨i0,id::(CU++is),i2,⟨h0.AJ λi hi=>hk i (h4 i (by simp[hi])).1 (h4 i (by simp[hi])).2 (jQ i (.inl hi)),?_,h2.AJ λi hi=>hk i (h4 i (by simp[hi])).1 (h4 i (by simp[hi])).2 (jQ i (.inr hi))⟩,?_,?_⟩
  · rw[IU,List.map_append];exact g1
  · have h5:∀i∈i0++(i1++i2),i<m:=λi hi=>(h4 i hi).2
    simp only[List.nodup_append,List.nodup_cons,List.mem_append,List.mem_cons]at h3 h5 ⊢;grind
  intro i hi;simp only[List.mem_append,List.mem_cons]at hi h4;grind
theorem EB.Vj{a m m':Nat}{H H':HP}{r P B:AV}{os:List Int}{X:List (List Int)}{Y:List (List (List Int))}{b c:Nat}{cs:List AV}{id:Nat}{r1:AV}{x:List (List Int)}{is:List Nat}(h:EB a m H r P B os X Y)(hL:LC H b c B cs)(ho:Ow H' r1 (rows x) is)(D0:is.Nodup)(hb:∀i∈is,m<=i/\i<m')
    (UA:H' id=some (cs++[r1])) (DS:m<=id/\id<m') (hni:id∉is) (Ux:a<=m) (hk:∀i,a<=i->i<m->bk B≠i+1->H' i=H i):EB a m' H' r P (.h id 0 (cs.length+1)) os X (Y++[x]):=by
  obtain⟨i0,i1,i2,⟨h0,h1,h2⟩,h3,h4⟩:=h;rw[ON]at h2;have mI:i2.Nodup:=by grind
  obtain⟨CU,g1,g2,g3,g4⟩:=h2.more hL ho UA (λi hi=>hk i (h4 i (by simp[hi])).1 (h4 i (by simp[hi])).2) mI;have jQ:∀i,i∈i0\/i∈i1->bk B≠i+1:=by
    intro i hi e;rcases hL with ⟨rfl,_⟩|⟨q,rfl,q0,q1,q2⟩
    · simp only[bk]at e;omega
    simp only[bk]at e;have hq:q∈i2:=by
      rcases h2.lc (.inr ⟨q,rfl,q0,q1,q2⟩)with ⟨e,_⟩|⟨q',CU,e,_,_,rfl,_⟩
      · cases e
      injection e with e1;subst e1;simp
    have:q=i:=A0;subst this;grind
  refine⟨i0,i1,id::(CU++is),⟨h0.AJ λi hi=>hk i (h4 i (by simp[hi])).1 (h4 i (by simp[hi])).2 (jQ i (.inl hi)),h1.AJ λi hi=>hk i (h4 i (by simp[hi])).1 (h4 i (by simp[hi])).2 (jQ i (.inr hi)),?_⟩,?_,?_⟩
  · rw[ON,List.map_append];exact g1
  · have h5:∀i∈i0++(i1++i2),i<m:=λi hi=>(h4 i hi).2
    simp only[List.nodup_append,List.nodup_cons,List.mem_append,List.mem_cons]at h3 h5 ⊢;grind
  intro i hi;simp only[List.mem_append,List.mem_cons]at hi h4;grind
theorem EB.wide{a a' m m':Nat}{H:HP}{r P B:AV}{os:List Int}{X:List (List Int)}{Y:List (List (List Int))}(h:EB a m H r P B os X Y)(ha:a'<=a)(hm:m<=m'):EB a' m' H r P B os X Y:=by
  obtain⟨i0,i1,i2,h0,h3,h4⟩:=h;exact⟨i0,i1,i2,h0,h3,λi hi=>by have:=h4 i hi;omega⟩
def gO:AV->Bool
  | .nl=>true
  | .h _ 0 _=>true
  |_=>false
theorem LC.gO{H:HP}{a b:Nat}{L:AV}{cs:List AV}(h:LC H a b L cs):gO L=true:=by
  rcases h with ⟨rfl,_⟩|⟨id,rfl,_,h1,h2⟩<;>rfl
theorem wK{cs:List AV}{L:AV}(h:∀x∈cs,gO x=true)(hL:gO L=true):∀x∈cs++[L],gO x=true:=by
  intro y hy;rcases List.mem_append.1 hy with hy|hy
  · exact h y hy
  rw[List.mem_singleton.1 hy];exact hL
def TQ(a m:Nat)(H:HP)(r P B:AV)(os:List Int)(X:List (List Int))(Y:List (List (List Int)))(cp cb:List AV):Prop:=EB a m H r P B os X Y/\LC H a m P cp/\LC H a m B cb/\∀x∈cb,Go.Proofs.YtgknbnkmilddhaaGreat.gO x=true
theorem TQ.AJ{a m m':Nat}{H H':HP}{r P B:AV}{os:List Int}{X:List (List Int)}{Y:List (List (List Int))}{cp cb:List AV}(h:TQ a m H r P B os X Y cp cb)(hk:∀i,a<=i->i<m->H' i=H i)(hm:m<=m'):TQ a m' H' r P B os X Y cp cb:=
  ⟨h.1.AJ hk hm,(h.2.1.AJ hk).wide (Nat.le_refl _) hm,(h.2.2.1.AJ hk).wide (Nat.le_refl _) hm,h.2.2.2⟩
theorem TQ.wide{a a' m m':Nat}{H:HP}{r P B:AV}{os:List Int}{X:List (List Int)}{Y:List (List (List Int))}{cp cb:List AV}(h:TQ a m H r P B os X Y cp cb)(ha:a'<=a)(hm:m<=m'):TQ a' m' H r P B os X Y cp cb:=
  ⟨h.1.wide ha hm,h.2.1.wide ha hm,h.2.2.1.wide ha hm,h.2.2.2⟩
theorem TQ.r0{a m:Nat}{H:HP}{r P B:AV}{os:List Int}{X:List (List Int)}{Y:List (List (List Int))}{cp cb:List AV}(h:TQ a m H r P B os X Y cp cb):one r=true:=by
  obtain⟨i0,i1,i2,⟨h0,_⟩,_⟩:=h.1;exact A0I h0
theorem AC.frz{P:Program}{f:FuncId}{nx:Nat}{H:HP}{xs:List AV}{Q Q':Nat->HP->AV->Prop}(h:AC P f nx H xs Q)(hq:∀n H' r,Q n H' r->∃H2 r2,PY H' H2/\Fz H' H2 r r2/\Q' n H2 r2):AC P f nx H xs Q':=
  ⟨h.1,λL Av w us a b c=>(h.2 L Av w us a b c).mono λe w' ⟨u,r,L',BB,H',h1,h2,h3,h4,h5,h6,h7,h8⟩=>by
    obtain⟨H2,r2,g1,g2,g3⟩:=hq _ _ _ h2;exact⟨u,r2,L',BB,H2,h1,g3,h3,h4,h5,h6.fz g1,⟨h7.le,h7.os,h7.tape,h7.output,h7.size,h7.AJ,λb hb hl=>h7.old b hb (g1.lb hl)⟩,g2.sound h6 g1 h8⟩⟩
theorem V8{P:Program}{f:FuncId}{nx:Nat}{H:HP}{xs ts:List AV}{Q:Nat->HP->AV->Prop}(h:AC P f nx BM ts Q)(hQ:∀n H0 r,Q n H0 r->∃X ids,Own nx n H0 r X ids/\∀H',(∀i∈ids,H' i=H0 i)->Q n H' r)(hv:ZY H xs ts):
    AC P f nx H xs λBB H' r=>Q BB H' r/\∀i,i<nx->H' i=H i:=by
  obtain⟨he,E8⟩:=h;refine⟨he,λL Av w us hs CQ ha=>(E8 L Av w us (WI hs.PL) CQ (by rw[WJ];exact ha.view hs hv)).mono ?_⟩;rintro e w' ⟨u,r,L',BB,H',h1,hq,h3,h4,h5,h6,h7,h8⟩;obtain⟨X,ids,⟨h2,D9,Ny⟩,JT⟩:=hQ _ _ _ hq;obtain⟨bO,iC⟩:=h2.fl;have hHn:∀i,nx<=i->H i=none:=by
    intro i hi;cases hh:H i with
    |none=>rfl
    |some cs=>obtain⟨l,g1,_⟩:=hs.node i cs hh;rw[CQ i hi]at g1;cases g1
  let H2:HP:=λi=>if i<nx then H i else if i∈ids then H' i else none
  have CD:∀i,i<nx->H2 i=H i:=λi hi=>by simp only[H2,hi,if_true]
  have Xy:∀i∈ids,H2 i=H' i:=by
    intro i hi;have:=Ny i hi;simp only[H2];rw[if_neg A0,if_pos hi]
  have KH:∀b,b<w.heap.size->w'.heap[b]? =w.heap[b]? :=λb hb=>h7.AJ b hb JK
  have live:∀i cs,H2 i=some cs->(i<nx/\H i=some cs)\/(i∈ids/\nx<=i/\H' i=some cs):=by
    intro i cs hi;simp only[H2]at hi;split at hi
    · exact .inl ⟨by assumption,hi⟩
    split at hi
    · exact .inr ⟨by assumption,A0,hi⟩
    cases hi
  have KO:∀i cs l,H' i=some cs->L' i=some l->w.heap.size<=l.CP:=by
    intro i cs l g1 g2;apply Classical.byContradiction;intro C4;exact JK (h7.old l.CP A0 ⟨i,cs,l,g1,g2,rfl⟩)
  have ER:Step L H w L' H2 w':=by
    refine⟨h7.le,h7.os,h7.tape,h7.output,h7.size,λb hb _=>KH b hb,?_⟩;rintro b hb ⟨i,cs,l,g1,g2,g3⟩;rcases live i cs g1 with ⟨g4,g5⟩|⟨g4,g5,g6⟩
    · exact⟨i,cs,l,g5,by rw[<-h5 i g4];exact g2,g3⟩
    have:=KO i cs l g6 g2;omega
  have Ln:SR L' H2 Av w':=by
    refine⟨?_,?_,?_,λb hb=>Nat.lt_of_lt_of_le (hs.PL b hb) h7.size⟩
    · intro i cs hi;rcases live i cs hi with ⟨g4,g5⟩|⟨g4,g5,g6⟩
      · obtain⟨l,g7,D0⟩:=hs.node i cs g5;exact⟨l,by rw[h5 i g4];exact g7,D0.mono (KH _ D0.lt) λk x hk c g13=>g13.step ER⟩
      obtain⟨l,g7,D0⟩:=h6.node i cs g6;refine⟨l,g7,D0.mono rfl λk x hk c g13=>?_⟩;obtain⟨CT,g14,g15⟩:=iC i g4;rw[g6]at g14;cases g14;exact g13.fl (λ_ _ h=>h) (g15 k x hk)
    · intro i i' cs CT l l' g1 g2 g3 g4 g5;rcases live i cs g1 with ⟨q1,q2⟩|⟨q1,q2,q3⟩<;>rcases live i' CT g2 with ⟨q4,q5⟩|⟨q4,q5',q6⟩
      · exact hs.inj i i' cs CT l l' q2 q5 (by rw[<-h5 i q1];exact g3) (by rw[<-h5 i' q4];exact g4) g5
      · have a1:=LX hs ⟨i,cs,l,q2,by rw[<-h5 i q1];exact g3,rfl⟩;have a2:=KO i' CT l' q6 g4;omega
      · have a1:=LX hs ⟨i',CT,l',q5,by rw[<-h5 i' q4];exact g4,rfl⟩;have a2:=KO i cs l q3 g3;omega
      exact h6.inj i i' cs CT l l' q3 q6 g3 g4 g5
    intro i cs l g1 g2;rcases live i cs g1 with ⟨q1,q2⟩|⟨q1,q2,q3⟩
    · exact hs.av i cs l q2 (by rw[<-h5 i q1];exact g2)
    exact h6.av i cs l q3 g2
  exact⟨u,r,L',BB,H2,h1,⟨JT H2 Xy,CD⟩,h3,h4,h5,Ln,ER,h8.fl (λ_ _ h=>h) bO⟩

mutual
theorem Ow.QC{H H2:HP}{r X:AV}{ids:List Nat}(h:Ow H r X ids)(hz:∀i∈ids,H2 i=none):Fz H H2 r X:=by
  cases h with
  |leaf _ hf hn=>exact .refl _
  |nl=>exact .nl
  | h id cs ts CU h1 h2=>
    have hl:=h2.len;exact .h id 0 _ cs ts h1 (hz id AB) AB A0 λk x y hx hy=>h2.QC (λi hi=>hz i (by simp[hi])) k x y (by simpa using hx) hy
  | q id cs ts CU h1 h2=>
    exact .q id 0 cs ts h1 (hz id AB) h2.len λk x y hx hy=>h2.QC (λi hi=>hz i (by simp[hi])) k x y hx hy
  |g cs ts CU h2=>exact .g cs ts h2.len λk x y hx hy=>h2.QC hz k x y hx hy
  |t cs ts CU h2=>exact .t cs ts h2.len λk x y hx hy=>h2.QC hz k x y hx hy
theorem IH.QC{H H2:HP}{cs ts:List AV}{ids:List Nat}(h:IH H cs ts ids)(hz:∀i∈ids,H2 i=none):∀(k:Nat) (x y:AV),cs[k]? =some x->ts[k]? =some y->Fz H H2 x y:=by
  cases h with
  |nil=>intro k x y hx;simp at hx
  | cons x y xs ys is js h1 h2=>
    intro k x' y' hx hy;cases k with
    |zero=>simp at hx hy;subst hx hy;exact h1.QC (λi hi=>hz i (by simp[hi]))
    |succ k=>exact h2.QC (λi hi=>hz i (by simp[hi])) k x' y' (by simpa using hx) (by simpa using hy)
end
def JI(n:Nat)(H:HP):HP:=λi=>if i<n then H i else none
theorem BH{n i:Nat}{H:HP}(h:i<n):JI n H i=H i:=by simp only[JI,h,if_true]
theorem QD{n i:Nat}{H:HP}(h:n<=i):JI n H i=none:=by simp only[JI];rw[if_neg A0]
theorem PY.JI{n:Nat}{H:HP}:PY H (Go.Proofs.YtgknbnkmilddhaaGreat.JI n H):=λj cs hj=>by
  by_cases e:j<n
  · rw[BH e]at hj;exact⟨cs,hj,rfl,λk x y h1 h2=>by rw[h1]at h2;cases h2;exact .refl _⟩
  rw[QD A0]at hj;cases hj
theorem LC.fz{n:Nat}{H:HP}{a b:Nat}{L:AV}{cs ts:List AV}(h:LC H a b L cs)(hn:n<=a)(hl:ts.length=cs.length)(hc:∀(k:Nat) (x y:AV),cs[k]? =some x->ts[k]? =some y->Fz H (JI n H) x y):Fz H (JI n H) L (.v ts.length ts):=by
  rcases h with ⟨rfl,rfl⟩|⟨id,rfl,h0,h1,h2⟩
  · rw[List.length_eq_zero_iff.1 hl];exact .nl
  rw[hl];exact .h id 0 _ cs ts h0 (QD A0) AB hl λk x y hx hy=>hc k x y (by simpa using hx) hy
theorem IH.fam{H:HP}:∀{cs ts:List AV} {ids:List Nat},IH H cs ts ids->∃J:Nat->List Nat,(∀k,k<cs.length->Ow H (cs.getD k .nl) (ts.getD k .nl) (J k))/\(∀k,k<cs.length->∀i∈J k,i∈ids)/\(∀k,cs.length<=k->J k=[])/\(ids.Nodup->(∀k,(J k).Nodup)/\∀j k,j≠k->∀i∈J j,i∉J k):=by
  intro cs;induction cs with
  |nil=>intro ts ids h;exact⟨λ_=>[],AB,AB,AB,AB⟩
  | cons c cs ih=>
    intro ts ids h;cases h with
    | cons x y xs ys is js h1 h2=>
      obtain⟨J,g1,g2,g0,g3⟩:=ih h2;refine⟨λk=>match k with|0=>is|k+1=>J k,λk hk=>?_,λk hk i hi=>?_,λk hk=>?_,λhn=>?_⟩
      · cases k with
        |zero=>simpa using h1
        |succ k=>simpa using g1 k (by simpa using hk)
      · cases k with
        |zero=>simp at hi ⊢;exact .inl hi
        |succ k=>simp at hi ⊢;exact .inr (g2 k (by simpa using hk) i hi)
      · cases k with
        |zero=>simp at hk
        |succ k=>exact g0 k (by simpa using hk)
      rw[List.nodup_append]at hn;obtain⟨n1,n2,n3⟩:=hn;obtain⟨g4,g5⟩:=g3 n2;have mem:∀k i,i∈J k->i∈js:=λk i hi=>by
        by_cases hk:k<cs.length
        · exact g2 k hk i hi
        rw[g0 k A0]at hi;cases hi
      refine⟨λk=>?_,λj k hjk i hi WC=>?_⟩
      · cases k with
        |zero=>exact n1
        |succ k=>exact g4 k
      cases j with
      | zero=>
        cases k with
        |zero=>exact hjk rfl
        |succ k=>exact n3 i hi i (mem k i WC) rfl
      | succ j=>
        cases k with
        |zero=>exact n3 i WC i (mem j i hi) rfl
        |succ k=>exact g5 j k A0 i hi WC
structure wL(lo m:Nat)(P B:AV)(X:List (List Int))(Y:List (List (List Int)))(bc:List AV)(H:HP):Prop where
  p:LC H lo m P (X.map ints)
  b:LC H lo m B bc
  bl:bc.length=Y.length
  c:∀k,k<Y.length->LC H lo m (bc.getD k .nl) ((Y.getD k []).map ints)
  pb:bk P=0\/bk P≠bk B
  pc:∀k,k<Y.length->bk (bc.getD k .nl)=0\/(bk (bc.getD k .nl)≠bk P/\bk (bc.getD k .nl)≠bk B)
  cc:∀j k,j<Y.length->k<Y.length->j≠k->bk (bc.getD j .nl)=0\/bk (bc.getD j .nl)≠bk (bc.getD k .nl)
theorem wL.AJ{lo lo' m m':Nat}{P B:AV}{X:List (List Int)}{Y:List (List (List Int))}{bc:List AV}{H H':HP}(h:wL lo m P B X Y bc H)(hk:∀j,lo<=j->j<m->H' j=H j)(hl:lo'<=lo)(hm:m<=m'):wL lo' m' P B X Y bc H':=
  ⟨(h.p.AJ hk).wide hl hm,(h.b.AJ hk).wide hl hm,h.bl,λk DN=>((h.c k DN).AJ hk).wide hl hm,h.pb,h.pc,h.cc⟩
theorem LC.pos{H:HP}{a b:Nat}{L:AV}{cs:List AV}(h:LC H a b L cs)(hp:0<cs.length):∃id,L= .h id 0 cs.length/\H id=some cs/\a<=id/\id<b:=by
  rcases h with ⟨_,rfl⟩|h
  · simp at hp
  exact h
theorem wL.QE{lo m k:Nat}{P B:AV}{X:List (List Int)}{Y:List (List (List Int))}{bc:List AV}{H:HP}(h:wL lo m P B X Y bc H)(hk:k<X.length):
    ∃p,P= .h p 0 X.length/\H p=some (X.map ints)/\(lo<=p/\p<m)/\∀(H':HP) (w:List Int) (lo' m':Nat),H' p=some (B3 (X.map ints) k [ints w])->(∀j,lo<=j->j<m->j≠p->H' j=H j)->lo'<=lo->m<=m'->wL lo' m' P B (X.set k w) Y bc H':=by
  obtain⟨p,e,h1,h2,h3⟩:=h.p.pos (by simpa using(by omega:0<X.length));rw[List.length_map]at e;refine⟨p,e,h1,⟨h2,h3⟩,λH' w lo' m' hp GF hl hm=>?_⟩;subst e;have hs:B3 (X.map ints) k [ints w]=(X.set k w).map ints:=by rw[EW _ _ _ (by simpa using hk),List.map_set]
  have LQ:∀i,bk B=i+1->i≠p:=λi hi e=>by
    rcases h.pb with g|g
    · simp[bk]at g
    exact g (by rw[hi,e];rfl)
  refine⟨.inr ⟨p,AB,by rw[hp,hs],A0,A0⟩,?_,h.bl,λj hj=>?_,h.pb,h.pc,h.cc⟩
  · exact(h.b.OZ (λi hi=>GF i (by have:=h.b.bd;omega) (by have:=h.b.bd;omega) (LQ i hi))).wide hl hm
  have hb:=(h.c j hj).bd;refine((h.c j hj).OZ (λi hi=>GF i A0 A0 (λe=>?_))).wide hl hm;rcases h.pc j hj with g|g
  · omega
  exact g.1 (by rw[hi,e];rfl)
theorem wL.V9{lo m k l:Nat}{P B:AV}{X:List (List Int)}{Y:List (List (List Int))}{bc:List AV}{H:HP}(h:wL lo m P B X Y bc H)(hk:k<Y.length)(hl:l<(Y.getD k []).length):
    ∃ b q,B= .h b 0 Y.length/\H b=some bc/\(lo<=b/\b<m)/\bc.getD k .nl= .h q 0 (Y.getD k []).length/\bc.getD k .j= .h q 0 (Y.getD k []).length/\H q=some ((Y.getD k []).map ints)/\(lo<=q/\q<m)/\b≠q/\
      ∀(H':HP) (w:List Int) (lo' m':Nat),H' q=some (B3 ((Y.getD k []).map ints) l [ints w])->(∀j,lo<=j->j<m->j≠q->H' j=H j)->lo'<=lo->m<=m'->wL lo' m' P B X (Y.set k ((Y.getD k []).set l w)) bc H':=by
  obtain⟨b,e,h1,h2,h3⟩:=h.b.pos (by rw[h.bl];omega);obtain⟨q,e2,g1,g2,g3⟩:=(h.c k hk).pos (by rw[List.length_map];omega);rw[List.length_map]at e2;rw[h.bl]at e;have e3:bc.getD k .j= .h q 0 (Y.getD k []).length:=by
    rw[<-e2];have:=h.bl;simp[List.getD,show k<bc.length by omega]
  have hq:=h.pc k hk;rw[e2]at hq;have KY:bk P≠q+1:=by
    rcases hq with g|g
    · simp[bk]at g
    exact λe=>g.1 e.symm
  have JT:b≠q:=by
    rcases hq with g|g
    · simp[bk]at g
    intro e4;apply g.2;rw[e,<-e4];rfl
  refine⟨b,q,e,h1,⟨h2,h3⟩,e2,e3,g1,⟨g2,g3⟩,JT,λH' w lo' m' hp GF MD hm=>?_⟩;have hs:B3 ((Y.getD k []).map ints) l [ints w]=((Y.getD k []).set l w).map ints:=by rw[EW _ _ _ (by simpa using hl),List.map_set]
  have aN:(Y.set k ((Y.getD k []).set l w)).length=Y.length:=AB;refine⟨?_,?_,by rw[aN];exact h.bl,λj hj=>?_,h.pb,by rw[aN];exact h.pc,by rw[aN];exact h.cc⟩
  · exact(h.p.OZ (λi hi=>GF i (by have:=h.p.bd;omega) (by have:=h.p.bd;omega) A0)).wide MD hm
  · refine(h.b.OZ (λi hi=>GF i (by have:=h.b.bd;omega) (by have:=h.b.bd;omega) ?_)).wide MD hm;rw[e]at hi;simp only[bk]at hi;omega
  rw[aN]at hj;by_cases ejk:j=k
  · subst ejk;rw[e2,show(Y.set j ((Y.getD j []).set l w)).getD j []=(Y.getD j []).set l w by simp[hj]];exact .inr ⟨q,AB,by rw[hp,hs],A0,A0⟩
  rw[show(Y.set k ((Y.getD k []).set l w)).getD j []=Y.getD j [] by rw[List.getD_eq_getElem?_getD,List.getElem?_set_ne A0,<-List.getD_eq_getElem?_getD]];have hb:=(h.c j hj).bd;refine((h.c j hj).OZ (λi hi=>GF i A0 A0 (λe4=>?_))).wide MD hm;rcases h.cc j k hj hk ejk with g|g
  · omega
  exact g (by rw[hi,e2,e4];rfl)
theorem wL.fz{lo m n:Nat}{P B:AV}{os:List Int}{X:List (List Int)}{Y:List (List (List Int))}{bc:List AV}{H:HP}(h:wL lo m P B X Y bc H)(hn:n<=lo):Fz H (JI n H) (.g [ints os,P,B]) (AP os X Y):=by
  refine .g _ _ rfl λk x y hx hy=>?_
  match k,hx,hy with
  |0,hx,hy=>cases hx;cases hy;exact .refl _
  | 1,hx,hy=>
    cases hx;cases hy;rw[IU];exact h.p.fz hn rfl λk x y g1 g2=>by rw[g1]at g2;cases g2;exact .refl _
  | 2,hx,hy=>
    cases hx;cases hy;rw[ON];refine h.b.fz hn (by rw[List.length_map,h.bl]) λk x y g1 g2=>?_
    have hk:k<Y.length:=by have:=(List.getElem?_eq_some_iff.1 g2).1;simpa using this
    have iJ:x=bc.getD k .nl:=by rw[List.getD_eq_getElem?_getD,g1];rfl
    have hy1:y=rows (Y.getD k []):=by
      rw[List.getElem?_map,List.getElem?_eq_getElem hk]at g2;rw[List.getD_eq_getElem?_getD,List.getElem?_eq_getElem hk];exact(Option.some.inj g2).symm
    subst iJ hy1;rw[IU];exact(h.c k hk).fz hn rfl λk x y g1 g2=>by rw[g1]at g2;cases g2;exact .refl _
theorem A20{H:HP}{a m:Nat}{L:AV}{ts:List AV}{ids:List Nat}{n:Nat}(h:Ow H L (.v n ts) ids)(hi:gO L=true)(hb:∀i∈ids,a<=i/\i<m):(L= .nl/\ts=[]/\ids=[])\/∃q cs CU,L= .h q 0 cs.length/\H q=some cs/\ts.length=cs.length/\ids=q::CU/\IH H cs ts CU/\a<=q/\q<m:=by
  rcases h.dM _ _ rfl with ⟨rfl,_⟩|⟨rfl,rfl,rfl,rfl⟩|⟨id,cs,CU,rfl,rfl,g1,g2,g3⟩
  · cases hi
  · exact .inl ⟨rfl,rfl,rfl⟩
  have:=hb id AB;exact .inr ⟨id,cs,CU,by rw[g2],g1,g3.len,rfl,g3,this.1,this.2⟩
theorem Gz{H:HP}{a m:Nat}{L:AV}{W:List (List Int)}{ids:List Nat}(h:Ow H L (rows W) ids)(hi:gO L=true)(hb:∀i∈ids,a<=i/\i<m)(D0:ids.Nodup):
    ∃y:List AV×List Nat,IH H y.1 (W.map ints) y.2/\(∀i,bk L=i+1->H i=some y.1/\i∈ids/\i∉y.2)/\(∀i∈y.2,i∈ids)/\∀H2:HP,(∀i,bk L=i+1->H2 i=some (W.map ints))->LC H2 a m L (W.map ints):=by
  rw[IU]at h;rcases A20 h hi hb with ⟨rfl,h1,rfl⟩|⟨q,cs,js,rfl,h1,h2,rfl,h3,h4,h5⟩
  · refine⟨([],[]),?_,by simp[bk],AB,λH2 _=>?_⟩
    · rw[h1];exact .nil
    rw[h1];exact .nil
  have hq:=List.nodup_cons.1 D0;refine⟨(cs,js),h3,λi e=>?_,λi hi=>by simp[hi],λH2 hz=> .inr ⟨q,by rw[h2],hz q rfl,h4,h5⟩⟩;simp only[bk]at e;obtain rfl:i=q:=A0;exact⟨h1,AB,hq.1⟩
open Classical in

theorem TQ.rg{a m:Nat}{H:HP}{r P B:AV}{os:List Int}{X:List (List Int)}{Y:List (List (List Int))}{cp cb:List AV}(h:TQ a m H r P B os X Y cp cb):
    ∃H2,PY H H2/\Fz H H2 (.g [r,P,B]) (.g [ints os,P,B])/\wL a m P B X Y cb H2/\∀j,(j<a\/m<=j)->H2 j=H j:=by
  obtain⟨⟨i0,i1,i2,⟨h0,h1,h2⟩,D0,fQ⟩,hP,hB,oR⟩:=h;have OR:∀i∈i0,a<=i/\i<m:=λi hi=>fQ i (by simp[hi])
  have LZ:∀i∈i1,a<=i/\i<m:=λi hi=>fQ i (by simp[hi])
  have PJ:∀i∈i2,a<=i/\i<m:=λi hi=>fQ i (by simp[hi])
  rw[List.nodup_append]at D0;obtain⟨n0,n12,d0⟩:=D0;rw[List.nodup_append]at n12;obtain⟨n1,n2,d12⟩:=n12;have d01:∀i∈i0,i∉i1:=λi hi WC=>d0 i hi i (by simp[WC]) rfl
  have d02:∀i∈i0,i∉i2:=λi hi WC=>d0 i hi i (by simp[WC]) rfl
  have Ha:∀i∈i1,i∉i2:=λi hi WC=>d12 i hi i WC rfl
  obtain⟨⟨cP,jP⟩,p1,p2,p3,p4⟩:=Gz h1 hP.gO LZ n1;dsimp only at p1 p2 p3;obtain⟨j2,o1,o2,o3,o4⟩:∃j2,IH H cb (Y.map rows) j2/\(∀i,bk B=i+1->H i=some cb/\i∈i2/\i∉j2)/\(∀i∈j2,i∈i2)/\j2.Nodup:=by
    rw[ON]at h2;rcases h2.lc hB with ⟨rfl,rfl,_,e,rfl⟩|⟨b,CU,rfl,g1,_,rfl,g2⟩
    · refine⟨[],by rw[e];exact .nil,by simp[bk],AB,AB⟩
    · have hq:=List.nodup_cons.1 n2;refine⟨CU,g2,λi e=>?_,λi hi=>by simp[hi],hq.2⟩;simp only[bk]at e;obtain rfl:i=b:=A0;exact⟨g1,AB,hq.1⟩
  have JN:cb.length=Y.length:=by have:=o1.len;simpa using this.symm
  obtain⟨J,f1,f2,_,f3⟩:=o1.fam;obtain⟨f4,f5⟩:=f3 o4;have LP:∀k,∃y:List AV×List Nat,k<Y.length->(IH H y.1 ((Y.getD k []).map ints) y.2/\(∀i,bk (cb.getD k .nl)=i+1->H i=some y.1/\i∈J k/\i∉y.2)/\(∀i∈y.2,i∈J k)/\∀H2:HP,(∀i,bk (cb.getD k .nl)=i+1->H2 i=some ((Y.getD k []).map ints))->LC H2 a m (cb.getD k .nl) ((Y.getD k []).map ints)):=λk=>by
    by_cases hk:k<Y.length
    · have g:=f1 k A0;rw[show(Y.map rows).getD k .nl=rows (Y.getD k []) by simp[hk]]at g;obtain⟨y,hy⟩:=Gz g (oR _ (by rw[List.getD_eq_getElem?_getD,List.getElem?_eq_getElem (show k<cb.length by omega)];exact List.getElem_mem _)) (λi hi=>PJ i (o3 i (f2 k A0 i hi))) (f4 k);exact⟨y,λ_=>hy⟩
    · exact⟨([],[]),λh=>absurd h hk⟩
  obtain⟨c,hc⟩:=Classical.axiomOfChoice LP;have q1:∀k i,k<Y.length->bk (cb.getD k .nl)=i+1->i∈J k/\i∈j2:=λk i hk e=>⟨((hc k hk).2.1 i e).2.1,f2 k A0 i ((hc k hk).2.1 i e).2.1⟩
  have nP:bk P=0\/bk P≠bk B:=by
    by_cases e:bk P=0
    · exact .inl e
    · refine .inr λe2=>?_
      have g1:=(p2 (bk P-1) A0).2.1;have g2:=(o2 (bk P-1) A0).2.1;exact Ha _ g1 g2
  have hpc:∀k,k<Y.length->bk (cb.getD k .nl)=0\/(bk (cb.getD k .nl)≠bk P/\bk (cb.getD k .nl)≠bk B):=λk hk=>by
    by_cases e:bk (cb.getD k .nl)=0
    · exact .inl e
    · have g:=q1 k (bk (cb.getD k .nl)-1) hk A0;refine .inr ⟨λe2=>?_,λe2=>?_⟩
      · exact Ha _ (p2 (bk (cb.getD k .nl)-1) A0).2.1 (o3 _ g.2)
      · exact(o2 (bk (cb.getD k .nl)-1) A0).2.2 g.2
  have Xo:∀j k,j<Y.length->k<Y.length->j≠k->bk (cb.getD j .nl)=0\/bk (cb.getD j .nl)≠bk (cb.getD k .nl):=λj k hj hk hjk=>by
    by_cases e:bk (cb.getD j .nl)=0
    · exact .inl e
    · refine .inr λe2=>?_
      have g1:=q1 j (bk (cb.getD j .nl)-1) hj A0;have g2:=q1 k (bk (cb.getD j .nl)-1) hk A0;exact f5 j k hjk _ g1.1 g2.1
  obtain⟨H2,QZ⟩:∃H2:HP,H2=λj=>if bk P=j+1 then some (X.map ints)else if bk B=j+1 then some cb else if h:∃k,k<Y.length/\bk (cb.getD k .nl)=j+1 then some ((Y.getD (Classical.choose h) []).map ints)else if j∈i0++(i1++i2)then none else H j:=⟨_,rfl⟩
  have eP:∀i,bk P=i+1->H2 i=some (X.map ints):=λi e=>by rw[QZ];simp only[e,if_true]
  have eB:∀i,bk B=i+1->H2 i=some cb:=λi e=>by
    rw[QZ];dsimp only;rw[if_neg A0,if_pos e]
  have eq:∀k i,k<Y.length->bk (cb.getD k .nl)=i+1->H2 i=some ((Y.getD k []).map ints):=λk i hk e=>by
    have g:=hpc k hk;have hex:∃k,k<Y.length/\bk (cb.getD k .nl)=i+1:=⟨k,hk,e⟩;rw[QZ];dsimp only;rw[if_neg A0,if_neg A0,dif_pos hex];have hs:=Classical.choose_spec hex;have:Classical.choose hex=k:=by
      apply Classical.byContradiction;intro AQ;rcases Xo _ k hs.1 hk AQ with g|g
      · omega
      · exact g (by rw[hs.2,e])
    rw[this]
  have eN:∀i,i∈i0++(i1++i2)->bk P≠i+1->bk B≠i+1->(∀k,k<Y.length->bk (cb.getD k .nl)≠i+1)->H2 i=none:=λi hi g1 g2 g3=>by
    rw[QZ];dsimp only;rw[if_neg g1,if_neg g2,dif_neg (λ⟨k,hk,e⟩=>g3 k hk e),if_pos hi]
  have eO:∀i,i∉i0++(i1++i2)->H2 i=H i:=λi hi=>by
    rw[QZ];dsimp only;rw[if_neg (λe=>hi (by simp[(p2 i e).2.1])),if_neg (λe=>hi (by simp[(o2 i e).2.1])),dif_neg (λ⟨k,hk,e⟩=>hi (by simp[o3 i (q1 k i hk e).2])),if_neg hi]
  have z0:∀i∈i0,H2 i=none:=λi hi=>eN i (by simp[hi]) (λe=>d01 i hi (p2 i e).2.1) (λe=>d02 i hi (o2 i e).2.1) (λk hk e=>d02 i hi (o3 i (q1 k i hk e).2))
  have zP:∀i∈jP,H2 i=none:=λi hi=>eN i (by simp[p3 i hi]) (λe=>(p2 i e).2.2 hi) (λe=>Ha i (p3 i hi) (o2 i e).2.1) (λk hk e=>Ha i (p3 i hi) (o3 i (q1 k i hk e).2))
  have zJ:∀k,k<Y.length->∀i∈(c k).2,H2 i=none:=λk hk i hi=>by
    have g1:=(hc k hk).2.2.1 i hi;have g2:=f2 k A0 i g1;refine eN i (by simp[o3 i g2]) (λe=>Ha i (p2 i e).2.1 (o3 i g2)) (λe=>(o2 i e).2.2 g2) (λk' KH e=>?_);by_cases ekk:k'=k
    · subst ekk;exact((hc k' KH).2.1 i e).2.2 hi
    · exact f5 k' k ekk i (q1 k' i KH e).1 g1
  refine⟨H2,λi CT hi=>?_,?_,⟨p4 H2 eP,?_,JN,λk hk=>(hc k hk).2.2.2 H2 (λi e=>eq k i hk e),nP,hpc,Xo⟩,λj hj=>eO j (λhm=>?_)⟩
  · by_cases e1:bk P=i+1
    · rw[eP i e1]at hi;cases hi;exact⟨cP,(p2 i e1).1,by rw[<-p1.len],λk x y hx hy=>p1.QC zP k x y hx hy⟩
    · by_cases e2:bk B=i+1
      · rw[eB i e2]at hi;cases hi;exact⟨cb,(o2 i e2).1,rfl,λk x y hx hy=>by rw[hx]at hy;cases hy;exact .refl _⟩
      · by_cases e3:∃k,k<Y.length/\bk (cb.getD k .nl)=i+1
        · obtain⟨k,hk,e⟩:=e3;rw[eq k i hk e]at hi;cases hi;have g:=hc k hk;exact⟨(c k).1,(g.2.1 i e).1,by rw[<-g.1.len],λj x y hx hy=>g.1.QC (zJ k hk) j x y hx hy⟩
        · by_cases e4:i∈i0++(i1++i2)
          · rw[eN i e4 e1 e2 (λk hk e=>e3 ⟨k,hk,e⟩)]at hi;cases hi
          · rw[eO i e4]at hi;exact⟨CT,hi,rfl,λk x y hx hy=>by rw[hx]at hy;cases hy;exact .refl _⟩
  · refine .g _ _ rfl λk x y hx hy=>?_
    match k,hx,hy with
    |0,hx,hy=>cases hx;cases hy;exact h0.QC z0
    |1,hx,hy=>cases hx;cases hy;exact .refl _
    |2,hx,hy=>cases hx;cases hy;exact .refl _
  · rcases hB with ⟨rfl,rfl⟩|⟨b,rfl,g0,g1,g2⟩
    · exact .nil
    · exact .inr ⟨b,rfl,eB b rfl,g1,g2⟩
  · have:=fQ j hm;omega
theorem TQ.ids{a m:Nat}{H:HP}{r P B:AV}{os:List Int}{X:List (List Int)}{Y:List (List (List Int))}{cp cb:List AV}(h:TQ a m H r P B os X Y cp cb):
    ∃Z ids,Own a m H (.g [r,P,B]) Z ids/\∀H',(∀i∈ids,H' i=H i)->TQ a m H' r P B os X Y cp cb:=by
  obtain⟨⟨i0,i1,i2,⟨h0,h1,h2⟩,D0,fQ⟩,hP,hB,oR⟩:=h;refine⟨_,i0++(i1++(i2++[])),⟨.g _ _ _ (.cons _ _ _ _ _ _ h0 (.cons _ _ _ _ _ _ h1 (.cons _ _ _ _ _ _ h2 .nil))),by simpa using D0,by simpa using fQ⟩,λH' hk=>?_⟩;have b1:=h1;have b2:=h2;rw[IU]at b1;rw[ON]at b2;exact⟨⟨i0,i1,i2,⟨h0.AJ λi hi=>hk i (by simp[hi]),h1.AJ λi hi=>hk i (by simp[hi]),h2.AJ λi hi=>hk i (by simp[hi])⟩,D0,fQ⟩,hP.OZ (λi hi=>hk i (by simp[b1.iY hP hi])),hB.OZ (λi hi=>hk i (by simp[b2.iY hB hi])),oR⟩
def rgK(nx:Nat)(H:HP)(os:List Int)(X:List (List Int))(Y:List (List (List Int))):Nat->HP->AV->Prop:=λBB H' r=>∃P B bc,r= .g [ints os,P,B]/\wL nx BB P B X Y bc H'/\∀i,i<nx->H' i=H i
theorem AC.rg{P:Program}{f:FuncId}{nx:Nat}{H:HP}{xs ts:List AV}{os:List Int}{X:List (List Int)}{Y:List (List (List Int))}
    (h:AC P f nx BM ts (λBB H' r=>∃r0 P B cp cb,r= .g [r0,P,B]/\TQ nx BB H' r0 P B os X Y cp cb)) (hv:ZY H xs ts):AC P f nx H xs (rgK nx H os X Y):=by
  refine(V8 h (λn H0 r ⟨r0,P,B,cp,cb,e,hW⟩=>?_) hv).frz λBB H' r ⟨⟨r0,P,B,cp,cb,e,hW⟩,CD⟩=>?_
  · obtain⟨Z,ids,ho,hk⟩:=hW.ids;exact⟨Z,ids,by rw[e];exact ho,λH' DN=>⟨r0,P,B,cp,cb,e,hk H' DN⟩⟩
  obtain⟨H2,g1,g2,g3,g4⟩:=hW.rg;exact⟨H2,_,g1,by rw[e];exact g2,P,B,cb,rfl,g3,λi hi=>(g4 i (.inl hi)).trans (CD i hi)⟩
theorem QF{cX n ops y s s1 K}{R0 R1 R2 R3 R4:Prop}(r0:R0)(r1:R1)(r2:R2)(r3:R3)(r4:R4)(q:AW cX Tryz.prog y s1 K)(e:R0->R1->R2->R3->R4->BV ops s s1:=by intro h0 h1 h2 h3 h4 N hN;(try simp-dsimp-implicitDefEqProofs(maxSteps:=800000) (disch:=omega)only[go_sem,Bool.and_true,AY,AP,h0,h1,h2,h3,h4]);exact hN):BU cX n ops y s K:=BY q (e r0 r1 r2 r3 r4)
theorem dN{cX n ops y s s1 K}(q:AW cX Tryz.prog y s1 K)(e:BV ops s s1:=by intro N hN;(try simp-dsimp-implicitDefEqProofs(maxSteps:=800000) (disch:=omega)only[go_sem,Lu,ints]);exact hN):BU cX n ops y s K:=BY q e
end Go.Proofs.YtgknbnkmilddhaaGreat
