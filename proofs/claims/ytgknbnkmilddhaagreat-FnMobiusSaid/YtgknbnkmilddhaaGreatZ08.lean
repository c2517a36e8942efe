import Derived.Test.YtgknbnkmilddhaaGreatZ07
set_option linter.unusedVariables false
set_option linter.unusedSimpArgs false
set_option linter.unusedSectionVars false

namespace Go.Proofs.YtgknbnkmilddhaaGreat
inductive Fz (H H':HP):AV->AV->Prop
  |j (a:AV):Fz H H' a .j
  |refl (a:AV):Fz H H' a a
  |nl:Fz H H' .nl (.v 0 [])
  |h (id o n:Nat) (cs ts:List AV) (h1:H id=some cs) (h0:H' id=none) (h2:o+n<=cs.length) (h3:ts.length=n) (h4:∀(k:Nat) (x y:AV),cs[o+k]? =some x->ts[k]? =some y->Fz H H' x y):Fz H H' (.h id o n) (.v n ts)
  |hs (s id o n:Nat) (cs ts:List AV) (h1:H id=some cs) (h0:H' id=none) (h2:o+n*s<=cs.length) (h3:ts.length=n*s) (h4:∀(k:Nat) (x y:AV),cs[o+k]? =some x->ts[k]? =some y->Fz H H' x y):Fz H H' (.hs s id o n) (.v n ts)
  |q (id o:Nat) (cs ts:List AV) (h1:H id=some cs) (h0:H' id=none) (h3:ts.length=cs.length) (h4:∀(k:Nat) (x y:AV),cs[k]? =some x->ts[k]? =some y->Fz H H' x y):Fz H H' (.q id o) (.p o ts)
  |g (cs ts:List AV) (h3:ts.length=cs.length) (h4:∀(k:Nat) (x y:AV),cs[k]? =some x->ts[k]? =some y->Fz H H' x y):Fz H H' (.g cs) (.g ts)
  |t (cs ts:List AV) (h3:ts.length=cs.length) (h4:∀(k:Nat) (x y:AV),cs[k]? =some x->ts[k]? =some y->Fz H H' x y):Fz H H' (.t cs) (.t ts)
  |v (n:Nat) (cs ts:List AV) (h3:ts.length=cs.length) (h4:∀(k:Nat) (x y:AV),cs[k]? =some x->ts[k]? =some y->Fz H H' x y):Fz H H' (.v n cs) (.v n ts)
  |f (n:Nat) (cs ts:List AV) (h3:ts.length=cs.length) (h4:∀(k:Nat) (x y:AV),cs[k]? =some x->ts[k]? =some y->Fz H H' x y):Fz H H' (.f n cs) (.f n ts)
def PY(H H':HP):Prop:=∀id CT,H' id=some CT->∃cs,H id=some cs/\CT.length=cs.length/\∀(k:Nat) (x y:AV),cs[k]? =some x->CT[k]? =some y->Fz H H' x y
theorem PY.lb{L:LM}{H H':HP}(h:PY H H'){b:Nat}:LB L H' b->LB L H b:=by
  rintro⟨id,cs,l,h1,h2,h3⟩;obtain⟨CT,h4,_⟩:=h id cs h1;exact⟨id,CT,l,h4,h2,h3⟩
theorem Fz.sound{L:LM}{H H':HP}{Av:Nat->Prop}{w:World}(s:SR L H Av w)(hh:PY H H'){a t:AV}(v:Fz H H' a t):∀{u:Value},R L w (MM L H Av) a u->R L w (MM L H' Av) t u:=by
  have hM:∀{x:AV} {u:Value},R L w (MM L H Av) x u->R L w (MM L H' Av) x u:=λh=>h.mono (λ_ _ h=>h) (λ_ _ _=>rfl) (λ_ _ h=>h.imp id hh.lb)
  have SA:∀(id:Nat) (cs:List AV) (l:Loc),H id=some cs->H' id=none->L id=some l->¬MM L H' Av l.CP:=by
    rintro id cs l h1 h0 hl (hb|⟨id',CT,l',g1,g2,g3⟩)
    · exact s.av id cs l h1 hl hb
    obtain⟨AB6,g4,_⟩:=hh id' CT g1;have:=s.inj id' id AB6 cs l' l g4 h1 g2 hl g3;rw[this,h0]at g1;cases g1
  induction v with
  |j a=>intro u h;exact .j u
  |refl a=>intro u h;exact hM h
  |nl=>intro u h;rw[h.EV];exact .v0 _ _
  | h id o n cs ts h1 h0 h2 h3 h4 ih=>
    intro u h;obtain⟨l,hl,D0⟩:=s.node id cs h1;cases h with
    | h _ _ _ l' ad cp I9 hn hc ha LP=>
      rw[hl]at I9;cases I9;obtain⟨arr,e,e2,e3,e4,e5⟩:=D0.ex LP;by_cases PH:n=0
      · subst PH;have:ts=[]:=List.length_eq_zero_iff.1 h3;subst this;exact .v0 _ _
      rw[ha.resolve_left A0];have F7:∀k,k<n->∃u,arr[l.off+o+k]? =some u/\R L w (MM L H Av) (cs.getD (o+k) .j) u:=by
        intro j hj;have C4:o+j<cs.length:=A0;obtain⟨u,h3,h4⟩:=e5 (o+j) cs[o+j] (List.getElem?_eq_getElem C4);exact⟨u,by rw[Nat.add_assoc];exact h3,by simpa[C4]using h4⟩
      refine .v n ts l.CP (l.off+o) cp arr e _ (λk=>arr.getD (l.off+o+k) undef) (SA id cs l h1 h0 hl) e2 hn ?_ ?_
      · intro k hk;obtain⟨u,h6,_⟩:=F7 k A0;rw[h6];simp[h6]
      intro k y hy;have hk:=(List.getElem?_eq_some_iff.1 hy).1;obtain⟨u,h6,h7⟩:=F7 k A0;have C4:o+k<cs.length:=A0;have hx:cs[o+k]? =some (cs.getD (o+k) .j):=by simp[C4]
      have:=ih k _ y hx hy h7;rw[show arr.getD (l.off+o+k) undef=u by simp[h6]];exact this
  | hs z id o n cs ts h1 h0 h2 h3 h4 ih=>
    intro u h;obtain⟨l,hl,D0⟩:=s.node id cs h1;cases h with
    | hs _ _ _ _ l' ad cp I9 hn hc ha LP=>
      rw[hl]at I9;cases I9;obtain⟨arr,e,e2,e3,e4,e5⟩:=D0.ex LP;by_cases PH:n=0
      · subst PH;have:ts=[]:=List.length_eq_zero_iff.1 (by simpa using h3);subst this;exact .v0 _ _
      rw[ha.resolve_left A0];have F7:∀k,k<n*z->∃u,arr[l.off+o+k]? =some u/\R L w (MM L H Av) (cs.getD (o+k) .j) u:=by
        intro j hj;have C4:o+j<cs.length:=A0;obtain⟨u,h3,h4⟩:=e5 (o+j) cs[o+j] (List.getElem?_eq_getElem C4);exact⟨u,by rw[Nat.add_assoc];exact h3,by simpa[C4]using h4⟩
      refine .v n ts l.CP (l.off+o) cp arr e _ (λk=>arr.getD (l.off+o+k) undef) (SA id cs l h1 h0 hl) e2 hn ?_ ?_
      · intro k hk;obtain⟨u,h6,_⟩:=F7 k A0;rw[h6];simp[h6]
      intro k y hy;have hk:=(List.getElem?_eq_some_iff.1 hy).1;obtain⟨u,h6,h7⟩:=F7 k A0;have C4:o+k<cs.length:=A0;have hx:cs[o+k]? =some (cs.getD (o+k) .j):=by simp[C4]
      have:=ih k _ y hx hy h7;rw[show arr.getD (l.off+o+k) undef=u by simp[h6]];exact this
  | q id o cs ts h1 h0 h3 h4 ih=>
    intro u h;obtain⟨l,hl,D0⟩:=s.node id cs h1;obtain⟨l',⟨I9,LP⟩,hu⟩:=h.gZ;rw[hl]at I9;cases I9;obtain⟨arr,e,e2,e3,e4,e5⟩:=D0.ex LP;rw[hu];refine .p o ts l.CP l.off arr e _ (λk=>arr.getD (l.off+k) undef) (SA id cs l h1 h0 hl) e2 ?_ ?_
    · intro k hk;obtain⟨u,h6,_⟩:=e5 k cs[k] (List.getElem?_eq_getElem A0);rw[h6];simp[h6]
    intro k y hy;have hk:=(List.getElem?_eq_some_iff.1 hy).1;obtain⟨u,h6,h7⟩:=e5 k cs[k] (List.getElem?_eq_getElem A0);have:=ih k _ y (List.getElem?_eq_getElem A0) hy h7;rw[show arr.getD (l.off+k) undef=u by simp[h6]];exact this
  | g cs ts h3 h4 ih=>
    intro u h;cases h with
    | g _ us hs hr=>
      refine .g ts us A0 ?_;intro k y hy;have hk:=(List.getElem?_eq_some_iff.1 hy).1;have hx:cs[k]? =some cs[k]:=List.getElem?_eq_getElem A0;exact ih k _ y hx hy (hr k _ hx)
  | t cs ts h3 h4 ih=>
    intro u h;cases h with
    | t _ us hs hr=>
      refine .t ts us A0 ?_;intro k y hy;have hk:=(List.getElem?_eq_some_iff.1 hy).1;have hx:cs[k]? =some cs[k]:=List.getElem?_eq_getElem A0;exact ih k _ y hx hy (hr k _ hx)
  | f n cs ts h3 h4 ih=>
    intro u h;cases h with
    | f _ _ us hs hr=>
      refine .f n ts us A0 ?_;intro k y hy;have hk:=(List.getElem?_eq_some_iff.1 hy).1;have hx:cs[k]? =some cs[k]:=List.getElem?_eq_getElem A0;exact ih k _ y hx hy (hr k _ hx)
  | v n cs ts h3 h4 ih=>
    intro u h;cases h with
    | v0 a cp=>
      have:ts=[]:=List.length_eq_zero_iff.1 (by simpa using h3);subst this;exact .v0 _ _
    | v _ _ b off cp arr e f us hm hb hn hu hr=>
      refine .v n ts b off cp arr e f us (λh=>hm (h.imp id hh.lb)) hb hn (λk hk=>hu k A0) ?_;intro k y hy;have hk:=(List.getElem?_eq_some_iff.1 hy).1;have hx:cs[k]? =some cs[k]:=List.getElem?_eq_getElem A0;exact ih k _ y hx hy (hr k _ hx)
theorem SR.fz{L:LM}{H H':HP}{Av:Nat->Prop}{w:World}(s:SR L H Av w)(h:PY H H'):SR L H' Av w:=by
  refine⟨?_,?_,?_,s.PL⟩
  · intro id CT DS;obtain⟨cs,h1,h2,h3⟩:=h id CT DS;obtain⟨l,h4,D0⟩:=s.node id cs h1;exact⟨l,h4,D0.trans rfl h2 λk x y hx hy u VZ=>(h3 k x y hx hy).sound s h VZ⟩
  · intro i i' c c' l l' h1 h2;obtain⟨d,g1,_⟩:=h i c h1;obtain⟨d',g2,_⟩:=h i' c' h2;exact s.inj i i' d d' l l' g1 g2
  intro i c l h1;obtain⟨d,g1,_⟩:=h i c h1;exact s.av i d l g1
def fzs(H H':HP):List AV->List AV->Prop
  |[],[]=>True
  |x::xs,y::ys=>Fz H H' x y/\fzs H H' xs ys
  |_,_=>False
structure WkF(s s':St):Prop where
  sl:fzs s.H s'.H s.t s'.t
  hp:PY s.H s'.H
  nx:s.nx<=s'.nx
theorem uZ{H H':HP}:∀{xs ys:List AV},fzs H H' xs ys->ys.length=xs.length/\∀(k:Nat) (y:AV),ys[k]? =some y->∃x,xs[k]? =some x/\Fz H H' x y:=by
  intro xs;induction xs with
  |nil=>intro ys h;cases ys with|nil=>exact⟨rfl,AB⟩|cons=>exact h.elim
  | cons x xs ih=>
    intro ys h;cases ys with
    |nil=>exact h.elim
    | cons y ys=>
      obtain⟨h1,h2⟩:=ih h.2;refine⟨by simp[h1],?_⟩;intro k z hk;cases k with
      |zero=>simp at hk;subst hk;exact⟨x,rfl,h.1⟩
      |succ k=>exact h2 k z (by simpa using hk)
theorem Cn.fz{cX:Ctx}{s s':St}{L:LM}{a:Act}{w:World}(c:Cn cX s L a w)(h:WkF s s'):Cn cX s' L a w:=by
  obtain⟨h1,h2,h3⟩:=h;obtain⟨h4,h5⟩:=uZ h1;refine⟨c.df,by rw[c.sz,h4],?_,c.sr.fz h2,λi hi=>c.fr i A0,by have:=c.nx;omega,c.lo,?_⟩
  · intro k y hk;obtain⟨x,h6,h7⟩:=h5 k y hk;exact h7.sound c.sr h2 (c.sl k x h6)
  exact⟨c.st.le,c.st.os,c.st.tape,c.st.output,c.st.size,c.st.AJ,λb hb hl=>c.st.old b hb (h2.lb hl)⟩
theorem AW.fz{cX:Ctx}{P:Program}{c:Code}{s s':St}{K:Exit->St->Prop}(h:WkF s s')(hs:AW cX P c s' K):AW cX P c s K:=
  λL a w Q hc hQ=>hs L a w Q (hc.fz h) hQ
theorem UH{H H':HP}:∀{xs:List AV},fzs H H' xs xs:=by
  intro xs;induction xs with
  |nil=>trivial
  |cons x xs ih=>exact⟨.refl _,ih⟩
theorem UI{H H':HP}:∀{xs:List AV} {k:Nat} {x y:AV},xs[k]? =some x->Fz H H' x y->fzs H H' xs (xs.set k y):=by
  intro xs;induction xs with
  |nil=>intro k x y h;simp at h
  | cons z zs ih=>
    intro k x y h hf;cases k with
    |zero=>simp at h;subst h;exact⟨hf,UH⟩
    |succ k=>exact⟨.refl _,ih (by simpa using h) hf⟩
theorem PY.del{H:HP}{id:Nat}:PY H (AT H id none):=by
  intro i CT h;by_cases e:i=id
  · subst e;rw[A4]at h;cases h
  rw[A1 _ _ e]at h;exact⟨CT,h,rfl,λk x y h1 h2=>by rw[h1]at h2;cases h2;exact .refl _⟩
theorem CZ{cX:Ctx}{P:Program}{c:Code}{s:St}{K:Exit->St->Prop}(k id n:Nat)(cs:List AV)(hk:s.t[k]? =some (.h id 0 n))(hc:s.H id=some cs)(hn:cs.length=n)
    (hs:AW cX P c ⟨s.t.set k (.v n cs),AT s.H id none,s.nx⟩ K):AW cX P c s K:=
  AW.fz (s':=⟨s.t.set k (.v n cs),AT s.H id none,s.nx⟩) ⟨UI hk (.h id 0 n cs cs hc (A4 _ _ _) A0 hn (λk x y h1 h2=>by rw[Nat.zero_add,h2]at h1;cases h1;exact .refl _)),PY.del,Nat.le_refl _⟩ hs
theorem B5{P:Program}{Γ:CA}(hG:IB P Γ){f:FuncId}{fn:Func}{c:Code}{n:Nat}{rs:Array ResultVar}(hf:P.funcs[f]? =some fn)(hb:fn.body=some c)(hn:(fn.name== "runtime.NumGoroutine")=false)(yK:fn.ntmps=n)(YR:fn.results=rs){xs:List AV}{r:AV}(hr:NR r)
    (h:∀nx (cX:Ctx),AW cX P c ⟨xs++List.replicate (n-xs.length) .j,BM,nx⟩ (jO Γ rs.toList λ_ H' r'=>Vw H' r' r)):BI P f xs r:=by
  refine⟨⟨fn,hf,by rw[hb];rfl,hn⟩,?_⟩;rintro L M w us hM ⟨nx,CQ⟩ ha;refine((BS hG hf hb hn yK YR (h nx)).2 L M w us (WI hM) CQ (by rw[WJ];exact ha)).mono ?_;rintro e w' ⟨u,r',L',BB,H',g1,g0,g2,g3,g4,g5,g6,g7⟩;refine⟨u,g1,⟨λ_ _ h=>h,g6.os,g6.tape,g6.output,g6.size,g6.AJ,λb _ hb=>absurd hb JK⟩,(g0.sound g5 g7).nr hr⟩
theorem UJ(a:List (List Int)):NR (rows a):= .v _ _ (λk y hk=>by
  obtain⟨z,_,rfl⟩:=List.mem_map.1 (List.mem_of_getElem? hk);exact GV z)
theorem A0J(x:List Int):(∀z∈ [ints x],one z=true)=True:=by
  refine eq_true (λz hz=>?_);rw[List.mem_singleton.1 hz];rfl
theorem A0K(n:Nat)(cs:List AV):(∀z∈ [AV.v n cs],one z=true)=True:=by
  refine eq_true (λz hz=>?_);rw[List.mem_singleton.1 hz];rfl
theorem Ol{α:Type}{f:α->AV}{u:List α}{k:Nat}:List.take k (List.map f (List.take k u))=List.map f (List.take k u):=by rw[<-List.map_take,List.take_take,Nat.min_self]
attribute [go_sem] A0K Ol A0J List.length_drop
theorem Le.del{H:HP}{j:Nat}(h:H j=none):Le H (AT H j none):=by
  intro i c hi;by_cases e:i=j
  · subst e;rw[h]at hi;cases hi
  rw[A1 _ _ e];exact hi
theorem Vw.fr{H:HP}{id n:Nat}{xs:List AV}(h:H id=some xs)(hn:xs.length=n):Vw H (.h id 0 n) (.v n xs):=
  .h id 0 n _ _ h A0 hn (λk x y hx hy=>by rw[Nat.zero_add,hy]at hx;cases hx;exact .refl _)
def oA:Option Nat->Nat->AV
  |none,_=> .nl
  |some id,k=> .h id 0 k
def oH(H:HP):Option Nat->List AV->HP
  |none,_=>H
  |some id,cs=>AT H id (some cs)
theorem A0L(k:IntKind)(n:Int):(∀z∈ [AV.i k n],one z=true)=True:=by
  refine eq_true (λz hz=>?_);rw[List.mem_singleton.1 hz];rfl
attribute [go_sem] A0L
theorem UK{H:HP}{id n:Nat}{xs:List Int}(h:H id=some (xs.map (.i .i64)))(hn:n=xs.length):Vw H (.h id 0 n) (ints xs):=by
  subst hn;exact .h id 0 _ _ _ h AB AB (λk x y hx hy=>by rw[Nat.zero_add,hy]at hx;cases hx;exact .refl _)
def lim(m:Nat)(H:HP):HP:=λi=>if i<m then H i else none
theorem AK{cX:Ctx}{P:Program}{c:Code}{s:St}{K:Exit->St->Prop}(k id:Nat)(cs:List AV)(hk:s.t[k]? =some (.q id 0))(hc:s.H id=some cs)
    (hs:AW cX P c ⟨s.t.set k (.p 0 cs),AT s.H id none,s.nx⟩ K):AW cX P c s K:=
  AW.fz (s':=⟨s.t.set k (.p 0 cs),AT s.H id none,s.nx⟩) ⟨UI hk (.q id 0 cs cs hc (A4 _ _ _) rfl (λk x y h1 h2=>by rw[h2]at h1;cases h1;exact .refl _)),PY.del,Nat.le_refl _⟩ hs
theorem IP{α β:Type}{f:α->β}{xs:List α}:(xs.map f).take xs.length=xs.map f:=List.take_of_length_le (by rw[List.length_map];exact Nat.le_refl _)
theorem AC.fz{P:Program}{f:FuncId}{nx:Nat}{H H':HP}{xs ts:List AV}{Q:Nat->HP->AV->Prop}(hh:PY H H')(ha:fzs H H' xs ts)(h:AC P f nx H' ts Q):AC P f nx H xs Q:=by
  refine⟨h.1,λL Av w us hs CQ Dj=>(h.2 L Av w us (hs.fz hh) CQ ?_).mono ?_⟩
  · obtain⟨h4,h5⟩:=uZ ha;refine⟨by rw[Dj.1,h4],λk y hk=>?_⟩;obtain⟨x,h6,h7⟩:=h5 k y hk;exact h7.sound hs hh (Dj.2 k x h6)
  rintro e w' ⟨u,r,L',BB,H2,h1,h2,h3,h4,h5,h6,h7,h8⟩;exact⟨u,r,L',BB,H2,h1,h2,h3,h4,h5,h6,⟨h7.le,h7.os,h7.tape,h7.output,h7.size,λb hb hn=>h7.AJ b hb (λhl=>hn (hh.lb hl)),λb hb hl=>hh.lb (h7.old b hb hl)⟩,h8⟩
theorem Fz.CP{H:HP}{id n:Nat}{cs:List AV}(hc:H id=some cs)(hn:cs.length=n):Fz H (AT H id none) (.h id 0 n) (.v n cs):=
  .h id 0 n cs cs hc (A4 _ _ _) A0 hn (λk x y h1 h2=>by rw[Nat.zero_add,h2]at h1;cases h1;exact .refl _)
theorem AC.frame{P:Program}{f:FuncId}{nx:Nat}{H:HP}{xs:List AV}{Q:Nat->HP->AV->Prop}(h:AC P f nx BM xs Q):AC P f nx H xs λBB H' r=>∃H0,Q BB H0 r/\(∀i,i<nx->H' i=H i)/\∀i,nx<=i->H' i=H0 i:=by
  refine⟨h.1,λL Av w us hs CQ ha=>(h.2 L (MM L H Av) w us (WI (uE hs)) CQ (by rw[WJ];exact ha)).mono ?_⟩;rintro e w' ⟨u,r,L',BB,H0,h1,h2,h3,h4,h5,h6,h7,h8⟩;let H2:HP:=λi=>if i<nx then H i else H0 i
  have CD:∀i,i<nx->H2 i=H i:=λi hi=>by simp only[H2,hi,if_true]
  have FA:∀i,nx<=i->H2 i=H0 i:=λi hi=>by simp only[H2];rw[if_neg A0]
  have KH:∀b,b<w.heap.size->w'.heap[b]? =w.heap[b]? :=λb hb=>h7.AJ b hb JK
  have hHn:∀i cs,H i=some cs->i<nx:=λi cs hi=>by
    apply Classical.byContradiction;intro hn;obtain⟨l,g1,_⟩:=hs.node i cs hi;rw[CQ i A0]at g1;cases g1
  have live:∀i cs,H2 i=some cs->(i<nx/\H i=some cs)\/(nx<=i/\H0 i=some cs):=by
    intro i cs hi;rcases Nat.lt_or_ge i nx with h|h
    · rw[CD i h]at hi;exact .inl ⟨h,hi⟩
    rw[FA i h]at hi;exact .inr ⟨h,hi⟩
  have KO:∀i cs l,H0 i=some cs->L' i=some l->w.heap.size<=l.CP:=by
    intro i cs l g1 g2;apply Classical.byContradiction;intro C4;exact JK (h7.old l.CP A0 ⟨i,cs,l,g1,g2,rfl⟩)
  have W9:∀b,LB L' H2 b->LB L H b\/LB L' H0 b:=by
    rintro b ⟨i,cs,l,g1,g2,g3⟩;rcases live i cs g1 with ⟨q1,q2⟩|⟨q1,q2⟩
    · exact .inl ⟨i,cs,l,q2,by rw[<-h5 i q1];exact g2,g3⟩
    exact .inr ⟨i,cs,l,q2,g2,g3⟩
  have hMM:∀b,MM L' H2 Av b->MM L' H0 (MM L H Av) b:=by
    rintro b (hb|hb)
    · exact .inl (.inl hb)
    exact(W9 b hb).elim (λh=> .inl (.inr h)) .inr
  have ER:Step L H w L' H2 w':=by
    refine⟨h7.le,h7.os,h7.tape,h7.output,h7.size,λb hb _=>KH b hb,?_⟩;rintro b hb hl;rcases W9 b hl with g|⟨i,cs,l,g1,g2,g3⟩
    · exact g
    have:=KO i cs l g1 g2;omega
  refine⟨u,r,L',BB,H2,h1,⟨H0,h2,CD,FA⟩,h3,h4,h5,⟨?_,?_,?_,λb hb=>Nat.lt_of_lt_of_le (hs.PL b hb) h7.size⟩,ER,h8.mono (λ_ _ h=>h) (λ_ _ _=>rfl) (λb _ hb=>hMM b hb)⟩
  · intro i cs hi;rcases live i cs hi with ⟨g4,g5⟩|⟨g4,g5⟩
    · obtain⟨l,g7,D0⟩:=hs.node i cs g5;exact⟨l,by rw[h5 i g4];exact g7,D0.mono (KH _ D0.lt) λk x hk c g13=>g13.step ER⟩
    obtain⟨l,g7,D0⟩:=h6.node i cs g5;exact⟨l,g7,D0.mono rfl λk x hk c g13=>g13.mono (λ_ _ h=>h) (λ_ _ _=>rfl) (λb _ hb=>hMM b hb)⟩
  · intro i i' cs CT l l' g1 g2 g3 g4 g5;rcases live i cs g1 with ⟨q1,q2⟩|⟨q1,q2⟩<;>rcases live i' CT g2 with ⟨q4,q5⟩|⟨q4,q5⟩
    · exact hs.inj i i' cs CT l l' q2 q5 (by rw[<-h5 i q1];exact g3) (by rw[<-h5 i' q4];exact g4) g5
    · have a1:=LX hs ⟨i,cs,l,q2,by rw[<-h5 i q1];exact g3,rfl⟩;have a2:=KO i' CT l' q5 g4;omega
    · have a1:=LX hs ⟨i',CT,l',q5,by rw[<-h5 i' q4];exact g4,rfl⟩;have a2:=KO i cs l q2 g3;omega
    exact h6.inj i i' cs CT l l' q2 q5 g3 g4 g5
  intro i cs l g1 g2;rcases live i cs g1 with ⟨q1,q2⟩|⟨q1,q2⟩
  · exact hs.av i cs l q2 (by rw[<-h5 i q1];exact g2)
  exact λhv=>h6.av i cs l q2 g2 (.inl hv)
theorem Vw.CP{H:HP}{id n:Nat}{cs:List AV}(hc:H id=some cs)(hn:n=cs.length):Vw H (.h id 0 n) (.v n cs):=by
  subst hn;exact .h id 0 cs.length cs cs hc A0 rfl (λk x y hx hy=>by rw[Nat.zero_add,hy]at hx;cases hx;exact .refl _)
theorem Vw.t2{H:HP}{a X:AV}{k:IntKind}{e:Int}(h:Vw H a X):Vw H (.t [a,.i k e]) (.t [X,.i k e]):=by
  refine .t _ _ rfl (λk x y hx hy=>?_);match k,hx,hy with
  |0,hx,hy=>cases hx;cases hy;exact h
  |1,hx,hy=>cases hx;cases hy;exact .refl _
theorem ZY.rfl{H:HP}:∀{cs:List AV},ZY H cs cs:=by
  intro cs;induction cs with
  |nil=>exact .nil
  |cons c cs ih=>exact .cons (.refl _) ih
theorem nL(a:List (List (List Int))):NR (A6 a):= .v _ _ (λk y hk=>by
  simp only[List.getElem?_map,Option.map_eq_some_iff]at hk;obtain⟨z,_,rfl⟩:=hk;exact UJ z)
theorem J6{r:AV}(h:one r=true):(∀z∈ [r],one z=true)=True:=eq_true (λz hz=>by rw[List.mem_singleton.1 hz];exact h)
theorem AI{cX:Ctx}{P:Program}{c:Code}{s:St}{K:Exit->St->Prop}(h:∀G,s.H=G->AW cX P c ⟨s.t,G,s.nx⟩ K):AW cX P c s K:=h _ rfl
def DG{α:Type}(f:α->α):Nat->α->α
  |0,x=>x
  |k+1,x=>f (DG f k x)
theorem OA{α:Type}(f:α->α)(a b:Nat)(x:α):DG f (a+b) x=DG f b (DG f a x):=by
  induction b with
  |zero=>rfl
  |succ b ih=>rw[<-Nat.add_assoc,DG,DG,ih]
theorem IW{α:Type}{f:α->α}{p:α->Prop}(hf:∀x,p x->p (f x)):∀k x,p x->p (DG f k x):=by
  intro k;induction k with
  |zero=>exact λ_ h=>h
  |succ k ih=>exact λx h=>hf _ (ih x h)
abbrev V:=Nat->Int
def z0:V:=λ_=>0
theorem M0{i:Nat}:AX z0 i 0=z0:=by funext k;simp[AX,z0]
theorem D4{f:V}{i:Nat}{x:Int}:AX f i x i=x:=by simp[AX]
theorem IX{f:V}{i k:Nat}{x:Int}(h:k≠i):AX f i x k=f k:=by simp[AX,h]
theorem FW{f:V}{i:Nat}{x y:Int}:AX (AX f i x) i y=AX f i y:=by funext k;simp only[AX];split<;>rfl
theorem GW{f:V}{i:Nat}{x:Int}(h:f i=x):AX f i x=f:=by funext k;simp only[AX];split<;>simp_all
structure Pc where
  n:Nat
  o:Nat->Int
  pw:Nat->V
  cj:Nat->Nat->V
def JH(mul:V->V->V)(c:Nat->V)(x:V):Nat->Nat->V->V
  |0,_,u=>u
  |m+1,j,u=>JH mul c x m (j+1) (DG (λu=>mul u (c j)) (x j).toNat u)
def E2(P:Pc)(mul:V->V->V)(i:Nat)(x:V):V:=JH mul (P.cj i) x (P.n-(i+1)) (i+1) z0
def mF(P:Pc)(i:Nat)(mul:V->V->V)(a b:V):V:=
  if P.o i<=a i+b i then AX (mul (P.pw i) (mul (DG (E2 P mul i) (b i).toNat (AX a i 0)) (AX b i 0))) i (a i+b i-P.o i)
  else AX (mul (DG (E2 P mul i) (b i).toNat (AX a i 0)) (AX b i 0)) i (a i+b i)
def Md(P:Pc):Nat->V->V->V
  |0=>λ_ _=>z0
  |d+1=>mF P (P.n-(d+1)) (Md P d)
def M(P:Pc)(i:Nat):V->V->V:=Md P (P.n-i)
theorem gG{P:Pc}{i:Nat}(h:P.n<=i)(a b:V):M P i a b=z0:=by
  rw[M,show P.n-i=0 by omega];rfl
theorem UL{P:Pc}{i:Nat}(h:i<P.n):M P i=mF P i (M P (i+1)):=by
  rw[M,M,show P.n-i=(P.n-(i+1))+1 by omega,Md,show P.n-(P.n-(i+1)+1)=i by omega]
structure T(P:Pc)(i:Nat)(x:V):Prop where
  z:∀k,k<i->x k=0
  r:∀k,i<=k->k<P.n->0<=x k/\x k<P.o k
  t:∀k,P.n<=k->x k=0
structure GX(P:Pc):Prop where
  o:∀i,i<P.n->1<P.o i
  pw:∀i,i<P.n->T P (i+1) (P.pw i)
  cj:∀i j,i<j->j<P.n->T P (i+1) (P.cj i j)
variable{P:Pc}
theorem T.ge{i:Nat}{x:V}(h:T P i x)(hi:P.n<=i):x=z0:=by
  funext k
  by_cases e:k<i
  · exact h.z k e
  exact h.t k A0
theorem T.zero(hv:GX P)(i:Nat):T P i z0:=⟨λ_ _=>rfl,λk _ h=>by have:=hv.o k h;exact⟨Int.le_refl _,by show(0:Int)<_;omega⟩,λ_ _=>rfl⟩
theorem T.mono(hv:GX P){i j:Nat}(NZ:i<=j){x:V}(h:T P j x):T P i x:=
  ⟨λk hk=>h.z k A0,λk h1 h2=>by
    by_cases e:j<=k
    · exact h.r k e h2
    rw[h.z k A0];have:=hv.o k h2;omega,h.t⟩
theorem T.cut{i:Nat}{x:V}(h:T P i x):T P (i+1) (AX x i 0):=
  ⟨λk hk=>by
    by_cases e:k=i
    · subst e;exact D4
    rw[IX e];exact h.z k A0,
   λk h1 h2=>by rw[IX A0];exact h.r k A0 h2,
   λk hk=>by
    by_cases e:k=i
    · subst e;exact D4
    rw[IX e];exact h.t k hk⟩
theorem T.put{i:Nat}(hi:i<P.n){x:V}(h:T P (i+1) x){a:Int}(h0:0<=a)(h1:a<P.o i):T P i (AX x i a):=
  ⟨λk hk=>by rw[IX A0];exact h.z k A0,
   λk h2 h3=>by
    by_cases e:k=i
    · subst e;rw[D4];exact⟨h0,h1⟩
    rw[IX e];exact h.r k A0 h3,
   λk hk=>by rw[IX A0];exact h.t k hk⟩
theorem T.PZ{i:Nat}{x:V}(h:T P (i+1) x)(a:Int):AX (AX x i a) i 0=x:=by
  rw[FW];exact GW (h.z i A0)
theorem Ur{mul:V->V->V}{N:V->Prop}(hm:∀a b,N a->N b->N (mul a b)){c:Nat->V}{x:V}:∀m j u,(∀k,j<=k->k<j+m->N (c k))->N u->N (JH mul c x m j u):=by
  intro m;induction m with
  |zero=>exact λ_ _ _ h=>h
  | succ m ih=>
    intro j u hc hu;exact ih (j+1) _ (λk h1 h2=>hc k A0 A0) (IW (λy hy=>hm _ _ hy (hc j A0 A0)) _ _ hu)
theorem Y6(hv:GX P){mul:V->V->V}{i:Nat}(hm:∀a b,T P (i+1) a->T P (i+1) b->T P (i+1) (mul a b))(x:V):T P (i+1) (E2 P mul i x):=
  Ur hm _ _ _ (λk h1 h2=>hv.cj i k A0 A0) (T.zero hv _)
theorem A66(hv:GX P){mul:V->V->V}{i:Nat}(hi:i<P.n)(hm:∀a b,T P (i+1) a->T P (i+1) b->T P (i+1) (mul a b)){a b:V}(ha:T P i a)(hb:T P i b):T P i (mF P i mul a b):=by
  have h1:=ha.r i A0 hi;have h2:=hb.r i A0 hi;have h3:T P (i+1) (mul (DG (E2 P mul i) (b i).toNat (AX a i 0)) (AX b i 0)):=hm _ _ (IW (λy _=>Y6 hv hm y) _ _ ha.cut) hb.cut;unfold mF;split
  · exact T.put hi (hm _ _ (hv.pw i hi) h3) A0 A0
  exact T.put hi h3 A0 A0
theorem gH(hv:GX P){i:Nat}{a b:V}(ha:T P i a)(hb:T P i b):T P i (M P i a b):=by
  by_cases hi:P.n<=i
  · rw[gG hi];exact T.zero hv _
  have key:∀d i,P.n-i=d->∀a b,T P i a->T P i b->T P i (M P i a b):=by
    intro d;induction d with
    |zero=>intro i hd a b _ _;rw[gG A0];exact T.zero hv _
    | succ d ih=>
      intro i hd a b ha hb;rw[UL A0];exact A66 hv A0 (ih (i+1) A0) ha hb
  exact key _ i rfl a b ha hb
structure JU(N:V->Prop)(m:V->V->V):Prop where
  cl:∀{a b},N a->N b->N (m a b)
  ac:∀{a b c},N a->N b->N c->m (m a b) c=m a (m b c)
  e0:N z0
  l1:∀{a},N a->m z0 a=a
  r1:∀{a},N a->m a z0=a
  iv:∀{a},N a->∃b,N b/\m b a=z0/\m a b=z0
section
variable{N:V->Prop}{m:V->V->V}
theorem JU.lc(h:JU N m){a b c:V}(ha:N a)(hb:N b)(hc:N c)(e:m a b=m a c):b=c:=by
  obtain⟨v,h1,h2,h3⟩:=h.iv ha;rw[<-h.l1 hb,<-h2,h.ac h1 ha hb,e,<-h.ac h1 ha hc,h2,h.l1 hc]
theorem JU.rc(h:JU N m){a b c:V}(ha:N a)(hb:N b)(hc:N c)(e:m b a=m c a):b=c:=by
  obtain⟨v,h1,h2,h3⟩:=h.iv ha;rw[<-h.r1 hb,<-h3,<-h.ac hb ha h1,e,h.ac hc ha h1,h3,h.r1 hc]
def rep(m:V->V->V)(x:V)(k:Nat):V:=DG (λu=>m u x) k z0
theorem JU.rep(h:JU N m){x:V}(hx:N x)(k:Nat):N (rep m x k):=IW (λy hy=>h.cl hy hx) _ _ h.e0
theorem JU.v7(h:JU N m){x u:V}(hx:N x)(hu:N u)(k:Nat):DG (λu=>m u x) k u=m u (Go.Proofs.YtgknbnkmilddhaaGreat.rep m x k):=by
  induction k with
  |zero=>exact(h.r1 hu).symm
  |succ k ih=>rw[DG,ih,h.ac hu (h.rep hx k) hx];rfl
theorem JU.FX(h:JU N m){x:V}(hx:N x)(a b:Nat):Go.Proofs.YtgknbnkmilddhaaGreat.rep m x (a+b)=m (Go.Proofs.YtgknbnkmilddhaaGreat.rep m x a) (Go.Proofs.YtgknbnkmilddhaaGreat.rep m x b):=by
  rw[Go.Proofs.YtgknbnkmilddhaaGreat.rep,OA,<-h.v7 hx (h.rep hx a)];rfl
theorem JU.v8(h:JU N m){x:V}(hx:N x):Go.Proofs.YtgknbnkmilddhaaGreat.rep m x 1=x:=h.l1 hx
theorem JU.yS(h:JU N m){x:V}(hx:N x)(k:Nat):Go.Proofs.YtgknbnkmilddhaaGreat.rep m x (k+1)=m x (Go.Proofs.YtgknbnkmilddhaaGreat.rep m x k):=by
  rw[Nat.add_comm,h.FX hx,h.v8 hx]
theorem JU.JH(h:JU N m){c:Nat->V}{x:V}:∀q j u,(∀k,j<=k->k<j+q->N (c k))->N u->Go.Proofs.YtgknbnkmilddhaaGreat.JH m c x q j u=m u (Go.Proofs.YtgknbnkmilddhaaGreat.JH m c x q j z0):=by
  intro q;induction q with
  |zero=>exact λ_ u _ hu=>(h.r1 hu).symm
  | succ q ih=>
    intro j u hc hu;have hj:N (c j):=hc j A0 A0;have UB:∀k,j+1<=k->k<j+1+q->N (c k):=λk h1 h2=>hc k A0 A0
    have h3:=Ur (λa b=>h.cl) q (j+1) z0 UB h.e0 (x:=x);rw[Go.Proofs.YtgknbnkmilddhaaGreat.JH,ih (j+1) _ UB (IW (λy hy=>h.cl hy hj) _ _ hu),h.v7 hj hu,h.ac hu (h.rep hj _) h3,Go.Proofs.YtgknbnkmilddhaaGreat.JH,
      ih (j+1) (DG _ _ z0) UB (IW (λy hy=>h.cl hy hj) _ _ h.e0)]
    rfl
end
structure Ext(N:V->Prop)(m:V->V->V)(p:Nat)(w:V)(φ:V->V):Prop where
  g:JU N m
  fc:∀{x},N x->N (φ x)
  fm:∀{x y},N x->N y->φ (m x y)=m (φ x) (φ y)
  f0:φ z0=z0
  hw:N w
  fw:φ w=w
  inn:∀{x},N x->m w (DG φ p x)=m x w
section
variable{N:V->Prop}{m:V->V->V}{p:Nat}{w:V}{φ:V->V}
theorem Ext.ic(h:Ext N m p w φ){x:V}(hx:N x)(k:Nat):N (DG φ k x):=IW (λ_ h'=>h.fc h') _ _ hx
theorem Ext.im(h:Ext N m p w φ){x y:V}(hx:N x)(hy:N y)(k:Nat):DG φ k (m x y)=m (DG φ k x) (DG φ k y):=by
  induction k with
  |zero=>rfl
  |succ k ih=>rw[DG,ih,h.fm (h.ic hx k) (h.ic hy k)];rfl
theorem Ext.i0(h:Ext N m p w φ)(k:Nat):DG φ k z0=z0:=by
  induction k with
  |zero=>rfl
  |succ k ih=>rw[DG,ih,h.f0]
theorem Ext.iw(h:Ext N m p w φ)(k:Nat):DG φ k w=w:=by
  induction k with
  |zero=>rfl
  |succ k ih=>rw[DG,ih,h.fw]
def xm(m:V->V->V)(p:Nat)(w:V)(φ:V->V)(a:Nat)(x:V)(b:Nat)(y:V):Nat×V:=
  if p<=a+b then (a+b-p,m w (m (DG φ b x) y))else (a+b,m (DG φ b x) y)
theorem Ext.assoc(h:Ext N m p w φ){a b c:Nat}{x y z:V}(ha:a<p)(hb:b<p)(hc:c<p)(hx:N x)(hy:N y)(hz:N z):
    xm m p w φ (xm m p w φ a x b y).1 (xm m p w φ a x b y).2 c z=xm m p w φ a x (xm m p w φ b y c z).1 (xm m p w φ b y c z).2:=by
  have g:=h.g;have e1:=h.ic hx;have e2:=h.ic hy;have key:∀q r,q=p+r->m w (DG φ q x)=m (DG φ r x) w:=by
    intro q r hq;rw[hq,Nat.add_comm,OA,h.inn (e1 r)]
  unfold xm;by_cases h1:p<=a+b<;>by_cases h2:p<=b+c
  · simp only[h1,h2,if_true];have q1:DG φ c (m w (m (DG φ b x) y))=m w (m (DG φ (b+c) x) (DG φ c y)):=by
      rw[h.im h.hw (g.cl (e1 b) hy),h.im (e1 b) hy,h.iw,<-OA]
    have q2:m (DG φ (b+c-p) x) (m w (m (DG φ c y) z))=m w (m (DG φ (b+c) x) (m (DG φ c y) z)):=by
      rw[<-g.ac (e1 _) h.hw (g.cl (e2 c) hz),<-key (b+c) (b+c-p) A0,g.ac h.hw (e1 _) (g.cl (e2 c) hz)]
    have q3:m (m w (m (DG φ (b+c) x) (DG φ c y))) z=m w (m (DG φ (b+c) x) (m (DG φ c y) z)):=by
      rw[g.ac h.hw (g.cl (e1 _) (e2 c)) hz,g.ac (e1 _) (e2 c) hz]
    rw[q1,q2,q3];by_cases h3:p<=a+b-p+c
    · rw[if_pos h3,if_pos A0];congr 1;omega
    rw[if_neg h3,if_neg A0];congr 1;omega
  · simp only[h1,h2,if_true,if_false];have q1:DG φ c (m w (m (DG φ b x) y))=m w (m (DG φ (b+c) x) (DG φ c y)):=by
      rw[h.im h.hw (g.cl (e1 b) hy),h.im (e1 b) hy,h.iw,<-OA]
    have q3:m (m w (m (DG φ (b+c) x) (DG φ c y))) z=m w (m (DG φ (b+c) x) (m (DG φ c y) z)):=by
      rw[g.ac h.hw (g.cl (e1 _) (e2 c)) hz,g.ac (e1 _) (e2 c) hz]
    rw[q1,q3,if_neg A0,if_pos A0];congr 1;omega
  · simp only[h1,h2,if_true,if_false];have q1:DG φ c (m (DG φ b x) y)=m (DG φ (b+c) x) (DG φ c y):=by
      rw[h.im (e1 b) hy,<-OA]
    have q2:m (DG φ (b+c-p) x) (m w (m (DG φ c y) z))=m w (m (DG φ (b+c) x) (m (DG φ c y) z)):=by
      rw[<-g.ac (e1 _) h.hw (g.cl (e2 c) hz),<-key (b+c) (b+c-p) A0,g.ac h.hw (e1 _) (g.cl (e2 c) hz)]
    rw[q1,q2,g.ac (e1 _) (e2 c) hz,if_pos A0,if_neg A0];congr 1;omega
  simp only[h1,h2,if_true,if_false];have q1:DG φ c (m (DG φ b x) y)=m (DG φ (b+c) x) (DG φ c y):=by
    rw[h.im (e1 b) hy,<-OA]
  rw[q1,g.ac (e1 _) (e2 c) hz];by_cases h3:p<=a+b+c
  · rw[if_pos h3,if_pos A0];congr 1;omega
  rw[if_neg h3,if_neg A0];congr 1;omega
end
end Go.Proofs.YtgknbnkmilddhaaGreat

namespace Go.Proofs.YtgknbnkmilddhaaGreat
variable{P:Pc}
theorem JU.mk'{N:V->Prop}{m:V->V->V}(cl:∀{a b},N a->N b->N (m a b))(ac:∀{a b c},N a->N b->N c->m (m a b) c=m a (m b c))(e0:N z0)
    (l1:∀{a},N a->m z0 a=a) (iv:∀{a},N a->∃b,N b/\m b a=z0):JU N m:=by
  have rv:∀{a b},N a->N b->m b a=z0->m a b=z0:=by
    intro a b ha hb h;obtain⟨c,hc,h2⟩:=iv hb;rw[<-l1 (cl ha hb),<-h2,ac hc hb (cl ha hb),<-ac hb ha hb,h,l1 hb]
  refine⟨cl,ac,e0,l1,?_,?_⟩
  · intro a ha;obtain⟨b,hb,h⟩:=iv ha;rw[<-h,<-ac ha hb ha,rv ha hb h,l1 ha]
  intro a ha;obtain⟨b,hb,h⟩:=iv ha;exact⟨b,hb,h,rv ha hb h⟩
def un(j:Nat):V:=AX z0 j 1
theorem nM(hv:GX P){i j:Nat}(h:i<=j)(hj:j<P.n):T P i (un j):=
  T.mono hv h (T.put hj (T.zero hv _) A0 (hv.o j hj))
theorem nN{x:V}{i:Nat}:AX (AX x i 0) i (x i)=x:=by rw[FW];exact GW rfl
theorem A0M{i:Nat}{mul:V->V->V}(hv:GX P)(hi:i<P.n){a b:V}(ha:T P i a)(hb:T P i b):
    mF P i mul a b=AX (xm mul (P.o i).toNat (P.pw i) (E2 P mul i) (a i).toNat (AX a i 0) (b i).toNat (AX b i 0)).2 i
      (xm mul (P.o i).toNat (P.pw i) (E2 P mul i) (a i).toNat (AX a i 0) (b i).toNat (AX b i 0)).1:=by
  have h1:=ha.r i A0 hi;have h2:=hb.r i A0 hi;have h3:=hv.o i hi;unfold mF xm;by_cases h:P.o i<=a i+b i
  · rw[if_pos h,if_pos A0];congr 1;omega
  rw[if_neg h,if_neg A0];congr 1;omega
theorem A67(hv:GX P){i:Nat}(hi:i<P.n){φ:V->V}(h:Ext (T P (i+1)) (M P (i+1)) (P.o i).toNat (P.pw i) φ){a b:Nat}{x y:V}(ha:a<(P.o i).toNat)(hb:b<(P.o i).toNat)(hx:T P (i+1) x)(hy:T P (i+1) y):
    (xm (M P (i+1)) (P.o i).toNat (P.pw i) φ a x b y).1<(P.o i).toNat/\T P (i+1) (xm (M P (i+1)) (P.o i).toNat (P.pw i) φ a x b y).2:=by
  unfold xm;split
  · exact⟨by simp only;omega,h.g.cl h.hw (h.g.cl (h.ic hx b) hy)⟩
  exact⟨by simp only;omega,h.g.cl (h.ic hx b) hy⟩
theorem yU(hv:GX P){i:Nat}(hi:i<P.n)(h:Ext (T P (i+1)) (M P (i+1)) (P.o i).toNat (P.pw i) (E2 P (M P (i+1)) i)):JU (T P i) (M P i):=by
  have ho:=hv.o i hi;have hM:∀{a b},T P i a->T P i b->M P i a b=AX (xm (M P (i+1)) (P.o i).toNat (P.pw i) (E2 P (M P (i+1)) i) (a i).toNat (AX a i 0) (b i).toNat (AX b i 0)).2 i
      (xm (M P (i+1)) (P.o i).toNat (P.pw i) (E2 P (M P (i+1)) i) (a i).toNat (AX a i 0) (b i).toNat (AX b i 0)).1:=
    λha hb=>by rw[UL hi];exact A0M hv hi ha hb
  have hr:∀{a},T P i a->(a i).toNat<(P.o i).toNat:=λha=>by have:=ha.r i A0 hi;omega
  refine JU.mk' (λha hb=>gH hv ha hb) ?_ (T.zero hv i) ?_ ?_
  · intro a b c ha hb hc;obtain⟨u1,u2⟩:=A67 hv hi h (hr ha) (hr hb) ha.cut hb.cut;obtain⟨u3,u4⟩:=A67 hv hi h (hr hb) (hr hc) hb.cut hc.cut;have jV:=gH hv ha hb;have hbc:=gH hv hb hc;have:=h.assoc (hr ha) (hr hb) (hr hc) ha.cut hb.cut hc.cut;rw[hM jV hc,hM ha hbc];rw[hM ha hb,hM hb hc];simp only[D4,Int.toNat_natCast,T.PZ u2,T.PZ u4];rw[this]
  · intro a ha;rw[hM (T.zero hv i) ha,M0];have h1:=hr ha;unfold xm;rw[show(z0 i).toNat=0 from rfl,if_neg A0];simp only[h.i0,h.g.l1 ha.cut];rw[FW];exact GW (by have:=ha.r i A0 hi;omega)
  intro a ha;have h1:=hr ha;by_cases e:(a i).toNat=0
  · obtain⟨v,q1,q2,q3⟩:=h.g.iv ha.cut;refine⟨AX v i 0,T.put hi q1 A0 A0,?_⟩;rw[hM (T.put hi q1 A0 A0) ha];unfold xm;rw[D4,show(0:Int).toNat=0 from rfl,e,if_neg A0,T.PZ q1];show AX (M P (i+1) v _) i _=_
    rw[q2];exact M0
  obtain⟨u,q1,q2,q3⟩:=h.g.iv (h.g.cl h.hw ha.cut);have q4:T P (i+1) (DG (E2 P (M P (i+1)) i) ((P.o i).toNat-(a i).toNat) u):=h.ic q1 _;refine⟨AX (DG (E2 P (M P (i+1)) i) ((P.o i).toNat-(a i).toNat) u) i (((P.o i).toNat-(a i).toNat:Nat):Int),T.put hi q4 A0 A0,?_⟩;rw[hM (T.put hi q4 A0 A0) ha];unfold xm;rw[D4,Int.toNat_natCast,if_pos A0,T.PZ q4,<-OA,show(P.o i).toNat-(a i).toNat+(a i).toNat=(P.o i).toNat by omega];simp only
  rw[<-h.g.ac h.hw (h.ic q1 _) ha.cut,h.inn q1,h.g.ac q1 h.hw ha.cut,q2];rw[Nat.sub_self];exact M0
structure Dk(P:Pc)(i:Nat):Prop where
  pw:∀j,i<j->j<P.n->rep (M P (i+1)) (P.cj i j) (P.o j).toNat=E2 P (M P (i+1)) i (P.pw j)
  cj:∀j k,i<j->j<k->k<P.n->M P (i+1) (P.cj i k) (P.cj i j)=M P (i+1) (P.cj i j) (E2 P (M P (i+1)) i (P.cj j k))
  fx:E2 P (M P (i+1)) i (P.pw i)=P.pw i
  inn:∀j,i<j->j<P.n->M P (i+1) (P.pw i) (DG (E2 P (M P (i+1)) i) (P.o i).toNat (un j))=M P (i+1) (un j) (P.pw i)
def CG(P:Pc)(l:Nat):Prop:=∀i,l<=i->i<P.n->Dk P i
theorem CG.mono{l m:Nat}(h:CG P l)(hm:l<=m):CG P m:=λi h1 h2=>h i A0 h2
theorem jW(hv:GX P){i:Nat}{a b:V}(ha:T P (i+1) a)(hb:T P (i+1) b):M P i a b=M P (i+1) a b:=by
  by_cases hi:i<P.n
  · rw[UL hi];unfold mF;have:=hv.o i hi;have h1:=ha.z i A0;have h2:=hb.z i A0;rw[h1,h2,if_neg A0,GW h1,GW h2];show AX (M P (i+1) a b) i (0+0)=_
    exact GW ((gH hv ha hb).z i A0)
  rw[gG A0,gG A0]
theorem Y8(hv:GX P){i j:Nat}(NZ:i<=j){a b:V}(ha:T P j a)(hb:T P j b):M P i a b=M P j a b:=by
  obtain⟨d,rfl⟩:∃d,j=i+d:=⟨j-i,A0⟩;induction d generalizing i with
  |zero=>rfl
  | succ d ih=>
    have h1:i+(d+1)=i+1+d:=A0;rw[h1]at ha hb;rw[jW hv (ha.mono hv A0) (hb.mono hv A0),ih A0 ha hb,h1]
theorem Q0{mul:V->V->V}{c:Nat->V}{x:V}{u:V}:∀d q j,(∀k,j<=k->k<j+d->x k=0)->JH mul c x (d+q) j u=JH mul c x q (j+d) u:=by
  intro d;induction d with
  |zero=>intro q j _;rw[Nat.zero_add];rfl
  | succ d ih=>
    intro q j h;rw[show d+1+q=(d+q)+1 by omega,JH,h j A0 A0];show JH mul c x (d+q) (j+1) u=_
    rw[ih q (j+1) (λk h1 h2=>h k A0 A0),show j+1+d=j+(d+1) by omega]
theorem vA{mul:V->V->V}{c:Nat->V}{x y:V}:∀q j u,(∀k,j<=k->k<j+q->x k=y k)->JH mul c x q j u=JH mul c y q j u:=by
  intro q;induction q with
  |zero=>intros;rfl
  |succ q ih=>intro j u h;rw[JH,JH,h j A0 A0,ih _ _ (λk h1 h2=>h k A0 A0)]
section
variable{i:Nat}(hv:GX P)(hg:JU (T P (i+1)) (M P (i+1)))
include hv hg
theorem UM{l:Nat}(hl:i<l)(aA:l<P.n){x:V}(hx:T P l x):
    E2 P (M P (i+1)) i x=M P (i+1) (rep (M P (i+1)) (P.cj i l) (x l).toNat) (E2 P (M P (i+1)) i (AX x l 0)):=by
  have e:P.n-(i+1)=(l-(i+1))+((P.n-(l+1))+1):=A0;have e2:i+1+(l-(i+1))=l:=A0;have s1:∀y:V,(∀k,k<l->y k=0)->E2 P (M P (i+1)) i y=JH (M P (i+1)) (P.cj i) y (P.n-(l+1)+1) l z0:=by
    intro y hy;have:=Q0 (mul:=M P (i+1)) (c:=P.cj i) (x:=y) (u:=z0) (l-(i+1)) (P.n-(l+1)+1) (i+1) (λk h1 h2=>hy k A0);rw[<-e,e2]at this;exact this
  rw[s1 x hx.z,s1 (AX x l 0) (λk hk=>by rw[IX A0];exact hx.z k hk),JH,JH,D4];show _=M P (i+1) _ (JH _ _ _ _ _ z0)
  rw[vA (x:=AX x l 0) (y:=x) _ _ _ (λk h1 h2=>IX A0),
    hg.JH _ _ _ (λk h1 h2=>hv.cj i k A0 A0) (IW (λy hy=>hg.cl hy (hv.cj i l hl aA)) _ _ hg.e0)]
  rfl
theorem jX:E2 P (M P (i+1)) i z0=z0:=by
  unfold E2;have this:JH (M P (i+1)) (P.cj i) z0 (P.n-(i+1)) (i+1) z0=JH (M P (i+1)) (P.cj i) z0 0 (i+1+(P.n-(i+1))) z0:=Q0 (P.n-(i+1)) 0 (i+1) (λk _ _=>rfl);rw[this];rfl
theorem Dl{c d:Nat->V}{x:V}{a:V}(ha:T P (i+1) a):∀q j,(∀k,j<=k->k<j+q->T P (i+1) (c k)/\T P (i+1) (d k)/\M P (i+1) a (d k)=M P (i+1) (c k) a)->
    ∀u v,T P (i+1) u->T P (i+1) v->M P (i+1) a v=M P (i+1) u a->M P (i+1) a (JH (M P (i+1)) d x q j v)=M P (i+1) (JH (M P (i+1)) c x q j u) a:=by
  intro q;induction q with
  |zero=>exact λ_ _ _ _ _ _ h=>h
  | succ q ih=>
    intro j hc u v hu hv' h;obtain⟨c1,c2,c3⟩:=hc j A0 A0;have key:∀k,T P (i+1) (DG (λu=>M P (i+1) u (c j)) k u)/\T P (i+1) (DG (λu=>M P (i+1) u (d j)) k v)/\
        M P (i+1) a (DG (λu=>M P (i+1) u (d j)) k v)=M P (i+1) (DG (λu=>M P (i+1) u (c j)) k u) a:=by
      intro k;induction k with
      |zero=>exact⟨hu,hv',h⟩
      | succ k vB=>
        obtain⟨k1,k2,k3⟩:=vB;refine⟨hg.cl k1 c1,hg.cl k2 c2,?_⟩;simp only[DG];rw[<-hg.ac ha k2 c2,k3,hg.ac k1 ha c2,c3,hg.ac k1 c1 ha]
    obtain⟨k1,k2,k3⟩:=key (x j).toNat;exact ih (j+1) (λk h1 h2=>hc k A0 A0) _ _ k1 k2 k3
theorem Om{l:Nat}(hl:i<l){φ:V->V}(hφ:∀{x},T P (l+1) x->T P (i+1) (φ x))(hh:∀{x y},T P (l+1) x->T P (l+1) y->φ (M P (l+1) x y)=M P (i+1) (φ x) (φ y)){c:Nat->V}{x:V}:
    ∀q j,(∀k,j<=k->k<j+q->T P (l+1) (c k))->∀u,T P (l+1) u->φ (JH (M P (l+1)) c x q j u)=JH (M P (i+1)) (λk=>φ (c k)) x q j (φ u):=by
  intro q;induction q with
  |zero=>intros;rfl
  | succ q ih=>
    intro j hc u hu;have cj:=hc j A0 A0;have key:∀k,T P (l+1) (DG (λu=>M P (l+1) u (c j)) k u)/\φ (DG (λu=>M P (l+1) u (c j)) k u)=DG (λu=>M P (i+1) u (φ (c j))) k (φ u):=by
      intro k;induction k with
      |zero=>exact⟨hu,rfl⟩
      |succ k vB=>exact⟨gH hv vB.1 cj,by simp only[DG];rw[hh vB.1 cj,vB.2]⟩
    obtain⟨k1,k2⟩:=key (x j).toNat;rw[JH,ih (j+1) (λk h1 h2=>hc k A0 A0) _ k1,k2,JH]
theorem Dm{x:V}:T P (i+1) (E2 P (M P (i+1)) i x):=Y6 hv (λa b=>hg.cl) x
theorem On(hc:Dk P i):∀d l,i<l->P.n-l=d->∀x y,T P l x->T P l y->E2 P (M P (i+1)) i (M P l x y)=M P (i+1) (E2 P (M P (i+1)) i x) (E2 P (M P (i+1)) i y):=by
  intro d;induction d with
  | zero=>
    intro l hl hd x y hx hy;rw[gG A0,hx.ge A0,hy.ge A0,jX hv hg,hg.l1 hg.e0]
  | succ d ih=>
    intro l hl hd x y hx hy;have aA:l<P.n:=A0;have ih':=λ{x y} (hx:T P (l+1) x) (hy:T P (l+1) y)=>ih (l+1) A0 A0 x y hx hy
    have fc:∀{x},T P (i+1) (E2 P (M P (i+1)) i x):=Dm hv hg;have JN:=hv.cj i l hl aA;have ex:∀{u},T P (l+1) u->M P (i+1) (P.cj i l) (E2 P (M P (i+1)) i (E2 P (M P (l+1)) l u))=M P (i+1) (E2 P (M P (i+1)) i u) (P.cj i l):=by
      intro u hu;have h1:E2 P (M P (i+1)) i (E2 P (M P (l+1)) l u)=JH (M P (i+1)) (λk=>E2 P (M P (i+1)) i (P.cj l k)) u (P.n-(l+1)) (l+1) z0:=by
        rw[show E2 P (M P (l+1)) l u=JH (M P (l+1)) (P.cj l) u (P.n-(l+1)) (l+1) z0 from rfl,Om hv hg hl (φ:=E2 P (M P (i+1)) i) (λ_=>fc) ih' _ _ (λk h1 h2=>hv.cj l k A0 A0) _ (T.zero hv _),jX hv hg]
      have h2:E2 P (M P (i+1)) i u=JH (M P (i+1)) (P.cj i) u (P.n-(l+1)) (l+1) z0:=by
        unfold E2;rw[show P.n-(i+1)=(l-i)+(P.n-(l+1)) by omega,Q0 _ _ _ (λk h1 h2=>hu.z k A0),show i+1+(l-i)=l+1 by omega]
      rw[h1,h2];refine Dl hv hg JN _ _ (λk h3 h4=>⟨hv.cj i k A0 A0,fc,(hc.cj l k hl A0 A0).symm⟩) _ _ hg.e0 hg.e0 ?_;rw[hg.r1 JN,hg.l1 JN]
    have exn:∀b u,T P (l+1) u->M P (i+1) (rep (M P (i+1)) (P.cj i l) b) (E2 P (M P (i+1)) i (DG (E2 P (M P (l+1)) l) b u))=M P (i+1) (E2 P (M P (i+1)) i u) (rep (M P (i+1)) (P.cj i l) b):=by
      intro b;induction b with
      |zero=>intro u hu;show M P (i+1) z0 (E2 _ _ _ u)=M P (i+1) _ z0;rw[hg.l1 fc,hg.r1 fc]
      | succ b ihb=>
        intro u hu;have t1:T P (l+1) (DG (E2 P (M P (l+1)) l) b u):=IW (λy _=>Y6 hv (λ_ _=>gH hv) y) _ _ hu;show M P (i+1) (M P (i+1) (rep (M P (i+1)) (P.cj i l) b) (P.cj i l)) (E2 P (M P (i+1)) i (E2 P (M P (l+1)) l (DG (E2 P (M P (l+1)) l) b u)))=M P (i+1) _ (M P (i+1) (rep (M P (i+1)) (P.cj i l) b) (P.cj i l))
        rw[hg.ac (hg.rep JN b) JN fc,ex t1,<-hg.ac (hg.rep JN b) fc JN,ihb u hu,hg.ac fc (hg.rep JN b) JN]
    have rx:=hx.r l A0 aA;have ry:=hy.r l A0 aA;have tl:T P (l+1) (DG (E2 P (M P (l+1)) l) (y l).toNat (AX x l 0)):=IW (λy _=>Y6 hv (λ_ _=>gH hv) y) _ _ hx.cut;have tr:T P (l+1) (M P (l+1) (DG (E2 P (M P (l+1)) l) (y l).toNat (AX x l 0)) (AX y l 0)):=gH hv tl hy.cut;have ra:=hg.rep JN (x l).toNat;have rb:=hg.rep JN (y l).toNat;have core:M P (i+1) (M P (i+1) (rep (M P (i+1)) (P.cj i l) (x l).toNat) (rep (M P (i+1)) (P.cj i l) (y l).toNat)) (E2 P (M P (i+1)) i (M P (l+1) (DG (E2 P (M P (l+1)) l) (y l).toNat (AX x l 0)) (AX y l 0)))=
        M P (i+1) (E2 P (M P (i+1)) i x) (E2 P (M P (i+1)) i y):=by
      rw[ih' tl hy.cut,hg.ac ra rb (hg.cl fc fc),<-hg.ac rb fc fc,exn _ _ hx.cut,hg.ac fc rb fc,<-UM hv hg hl aA hy,<-hg.ac ra fc fc,<-UM hv hg hl aA hx]
    rw[UL aA];unfold mF;by_cases h:P.o l<=x l+y l
    · rw[if_pos h];have tt:=gH hv (hv.pw l aA) tr;rw[UM hv hg hl aA (T.put aA tt A0 A0),D4,T.PZ tt,ih' (hv.pw l aA) tr,<-hc.pw l hl aA,<-hg.ac (hg.rep JN _) (hg.rep JN _) fc,<-hg.FX JN,
        show(x l+y l-P.o l).toNat+(P.o l).toNat=(x l).toNat+(y l).toNat by omega,hg.FX JN,core]
    rw[if_neg h,UM hv hg hl aA (T.put aA tr A0 A0),D4,T.PZ tr,show(x l+y l).toNat=(x l).toNat+(y l).toNat by omega,hg.FX JN,core]
end
theorem Oo(hv:GX P){l:Nat}{p:V->Prop}(h0:p z0)(hm:∀x y,T P l x->T P l y->p x->p y->p (M P l x y))(hu:∀j,l<=j->j<P.n->p (un j))(h1:∀j x,l<=j->T P j x->M P l z0 x=x):∀x,T P l x->p x:=by
  have key:∀d j,l<=j->P.n-j=d->∀x,T P j x->p x:=by
    intro d;induction d with
    |zero=>intro j hj hd x hx;rw[hx.ge A0];exact h0
    | succ d ih =>
      intro j hj hd x hx;have vC:j<P.n:=A0;have pu : ∀(k:Nat) (y:V),(k:Int)<P.o j->T P (j+1) y->p y->p (AX y j k):=by
        intro k;induction k with
        |zero=>intro y _ ty hy;rw[show AX y j ((0:Nat):Int)=y from GW (ty.z j A0)];exact hy
        | succ k vB=>
          intro y hk ty hy;have t1:T P j (AX y j k):=T.put vC ty A0 A0;have t2:T P j (un j):=nM hv (Nat.le_refl _) vC;have e:M P l (un j) (AX y j k)=AX y j ((k+1:Nat):Int):=by
            rw[Y8 hv hj t2 t1,UL vC];unfold mF;rw[show un j j=1 from D4,D4,if_neg A0,show AX (un j) j 0=z0 by rw[un,FW,M0],T.PZ ty];have:DG (E2 P (M P (j+1)) j) ((k:Int)).toNat z0=z0:=by
              have hz:E2 P (M P (j+1)) j z0=z0:=by
                unfold E2;have this:JH (M P (j+1)) (P.cj j) z0 (P.n-(j+1)) (j+1) z0=JH (M P (j+1)) (P.cj j) z0 0 (j+1+(P.n-(j+1))) z0:=Q0 (P.n-(j+1)) 0 (j+1) (λk _ _=>rfl);rw[this];rfl
              generalize ((k:Int)).toNat=q
              induction q with
              |zero=>rfl
              |succ q ihq=>rw[DG,ihq,hz]
            rw[this,<-Y8 hv (show l<=j+1 by omega) (T.zero hv _) ty,h1 _ _ A0 ty];congr 1;omega
          rw[<-e];exact hm _ _ (t2.mono hv hj) (t1.mono hv hj) (hu j hj vC) (vB y A0 ty hy)
      have rx:=hx.r j A0 vC;have:=pu (x j).toNat (AX x j 0) A0 hx.cut (ih (j+1) A0 A0 _ hx.cut);rw[show(((x j).toNat:Nat):Int)=x j by omega,nN]at this;exact this
  exact λx hx=>key _ l (Nat.le_refl _) rfl x hx
theorem yV(hv:GX P){i:Nat}(hi:i<P.n)(hg:JU (T P (i+1)) (M P (i+1)))(hc:Dk P i):Ext (T P (i+1)) (M P (i+1)) (P.o i).toNat (P.pw i) (E2 P (M P (i+1)) i):=by
  have fc:∀{x},T P (i+1) (E2 P (M P (i+1)) i x):=Dm hv hg;have fm:∀{x y},T P (i+1) x->T P (i+1) y->E2 P (M P (i+1)) i (M P (i+1) x y)=M P (i+1) (E2 P (M P (i+1)) i x) (E2 P (M P (i+1)) i y):=
    λhx hy=>On hv hg hc _ (i+1) A0 rfl _ _ hx hy
  have hw:=hv.pw i hi;refine⟨hg,λ_=>fc,fm,jX hv hg,hw,hc.fx,?_⟩;intro x hx;have ic:∀{x} (k:Nat),T P (i+1) x->T P (i+1) (DG (E2 P (M P (i+1)) i) k x):=λk hx=>IW (λ_ _=>fc) _ _ hx
  have im:∀{x y} (k:Nat),T P (i+1) x->T P (i+1) y->DG (E2 P (M P (i+1)) i) k (M P (i+1) x y)=M P (i+1) (DG (E2 P (M P (i+1)) i) k x) (DG (E2 P (M P (i+1)) i) k y):=by
    intro x y k hx hy;induction k with
    |zero=>rfl
    |succ k ih=>rw[DG,ih,fm (ic k hx) (ic k hy)];rfl
  have i0:∀k,DG (E2 P (M P (i+1)) i) k z0=z0:=by
    intro k;induction k with
    |zero=>rfl
    |succ k ih=>rw[DG,ih,jX hv hg]
  refine Oo (p:=λx=>M P (i+1) (P.pw i) (DG (E2 P (M P (i+1)) i) (P.o i).toNat x)=M P (i+1) x (P.pw i)) hv ?_ ?_ ?_ ?_ x hx
  · show M P (i+1) _ (DG _ _ z0)=_
    rw[i0,hg.r1 hw,hg.l1 hw]
  · intro x y hx hy h1 h2;show M P (i+1) _ (DG _ _ (M P (i+1) x y))=_
    rw[im _ hx hy,<-hg.ac hw (ic _ hx) (ic _ hy),h1,hg.ac hx hw (ic _ hy),h2,hg.ac hx hy hw]
  · exact λj h1 h2=>hc.inn j A0 h2
  exact λj x h1 hx=>hg.l1 (hx.mono hv h1)
theorem C0(hv:GX P):∀{l:Nat},CG P l->JU (T P l) (M P l):=by
  have key:∀d l,P.n-l=d->CG P l->JU (T P l) (M P l):=by
    intro d;induction d with
    | zero=>
      intro l hd _;have hz:∀{x},T P l x->x=z0:=λhx=>hx.ge A0
      have hm:∀{x y},M P l x y=z0:=gG A0 _ _;exact⟨λ_ _=>by rw[hm];exact T.zero hv _,λ_ _ _=>by rw[hm,hm],T.zero hv _,λh=>by rw[hm,hz h],λh=>by rw[hm,hz h],λh=>⟨z0,T.zero hv _,hm,hm⟩⟩
    | succ d ih=>
      intro l hd hc;have hl:l<P.n:=A0;exact yU hv hl (yV hv hl (ih (l+1) A0 (hc.mono A0)) (hc l (Nat.le_refl _) hl))
  exact λ{l} h=>key _ l rfl h
end Go.Proofs.YtgknbnkmilddhaaGreat

namespace Go.Proofs.YtgknbnkmilddhaaGreat
variable{P:Pc}
def tl(l:Nat)(e:V):V:=λk=>if k<l then 0 else e k
def app(P:Pc)(l:Nat)(e f:V):V:=λk=>if k<l then e k else M P l (tl l e) f k
theorem yW(hv:GX P){e:V}(h:T P 0 e)(l:Nat):T P l (tl l e):=
  ⟨λk hk=>by simp[tl,hk],λk h1 h2=>by rw[tl,if_neg A0];exact h.r k A0 h2,λk hk=>by rw[tl];split;rfl;exact h.t k hk⟩
theorem A68{l:Nat}{e:V}(h:T P l e):tl l e=e:=by
  funext k;rw[tl];split
  · exact(h.z k (by assumption)).symm
  rfl
theorem A69(hv:GX P){l:Nat}{e f:V}(he:T P 0 e)(hf:T P l f):T P 0 (app P l e f):=by
  have h:=gH hv (yW hv he l) hf;refine⟨λk hk=>A0,λk _ h2=>?_,λk hk=>?_⟩
  · rw[app];split
    · exact he.r k A0 h2
    exact h.r k A0 h2
  rw[app];split
  · exact he.t k hk
  exact h.t k hk
theorem UN(hv:GX P){l:Nat}{e f:V}(he:T P l e)(hf:T P l f):app P l e f=M P l e f:=by
  funext k;rw[app,A68 he];split
  · rename_i hk;rw[he.z k hk,(gH hv he hf).z k hk]
  rfl
theorem nO(hv:GX P)(j:Nat)(q:Nat):DG (E2 P (M P (j+1)) j) q z0=z0:=by
  have hz:E2 P (M P (j+1)) j z0=z0:=by
    unfold E2;have this:JH (M P (j+1)) (P.cj j) z0 (P.n-(j+1)) (j+1) z0=JH (M P (j+1)) (P.cj j) z0 0 (j+1+(P.n-(j+1))) z0:=Q0 (P.n-(j+1)) 0 (j+1) (λk _ _=>rfl);rw[this];rfl
  induction q with
  |zero=>rfl
  |succ q ihq=>rw[DG,ihq,hz]
theorem Dn(hv:GX P):∀d {l:Nat} {x u:V},T P l x->T P (l+d) u->M P l x u=λk=>if k<l+d then x k else M P (l+d) (tl (l+d) x) u k:=by
  intro d;induction d with
  | zero=>
    intro l x u hx hu;have:=UN hv hx hu;rw[<-this];rfl
  | succ d ih=>
    intro l x u hx hu;by_cases hl:l<P.n
    · rw[UL hl];unfold mF;have h1:=hu.z l A0;have h2:=hx.r l A0 hl;rw[h1,if_neg A0,GW h1];show AX (M P (l+1) (AX x l 0) u) l (x l+0)=_
      rw[show l+(d+1)=l+1+d by omega]at hu ⊢;rw[ih hx.cut hu];funext k
      simp only[AX];by_cases e:k=l
      · subst e;rw[if_pos rfl,if_pos A0];omega
      rw[if_neg e,if_neg e];have:tl (l+1+d) (AX x l 0)=tl (l+1+d) x:=by
        funext q;simp only[tl];split
        · rfl
        rw[IX A0]
      rw[this]
    have e1:=hx.ge A0;rw[gG A0,e1];funext k
    split
    · rfl
    rw[gG A0]
theorem rC(hv:GX P){l j:Nat}(hl:l<=j){e u:V}(he:T P 0 e)(hu:T P j u):app P l e u=app P j e u:=by
  obtain⟨d,rfl⟩:∃d,j=l+d:=⟨j-l,A0⟩;funext k
  have ht:=Dn hv d (yW hv he l) hu;rw[app,app,ht];have:tl (l+d) (tl l e)=tl (l+d) e:=by
    funext q;simp only[tl];split
    · rfl
    rw[if_neg A0]
  rw[this];by_cases h1:k<l
  · rw[if_pos h1,if_pos A0]
  rw[if_neg h1];show(if k<l+d then tl l e k else M P (l+d) (tl (l+d) e) u k)=_
  by_cases h2:k<l+d
  · rw[if_pos h2,if_pos h2,tl,if_neg h1]
  rw[if_neg h2,if_neg h2]
theorem Oq(hv:GX P){l:Nat}(hg:JU (T P l) (M P l)){e u v:V}(he:T P 0 e)(hu:T P l u)(hw:T P l v):app P l (app P l e u) v=app P l e (M P l u v):=by
  funext k
  have h1:=yW hv he l;have:tl l (app P l e u)=M P l (tl l e) u:=by
    funext q;simp only[tl,app];split
    · rw[(gH hv h1 hu).z q (by assumption)]
    rfl
  show(if k<l then app P l e u k else M P l (tl l (app P l e u)) v k)=if k<l then e k else M P l (tl l e) (M P l u v) k
  rw[this];by_cases h:k<l
  · rw[if_pos h,if_pos h,app,if_pos h]
  rw[if_neg h,if_neg h,hg.ac h1 hu hw]
theorem A0N(hv:GX P){l:Nat}(hg:JU (T P l) (M P l)){e:V}(he:T P 0 e):app P l e z0=e:=by
  funext k
  rw[app,hg.r1 (yW hv he l),tl];split
  · rfl
  rfl
theorem A0O(hv:GX P){j:Nat}(hj:j<P.n)(hg:JU (T P (j+1)) (M P (j+1))){y:V}(ty:T P (j+1) y){a:Int}(h0:0<=a)(h1:a+1<P.o j):
    M P j (un j) (AX y j a)=AX y j (a+1):=by
  rw[UL hj];unfold mF;rw[show un j j=1 from D4,D4,if_neg A0,show AX (un j) j 0=z0 by rw[un,FW,M0],T.PZ ty,nO hv,hg.l1 ty];congr 1;omega
def aB(j:Nat)(e:V)(c:Int)(t:V):V:=λk=>if k<j then e k else if k=j then c else t k
theorem Dp(hv:GX P){j:Nat}{e t:V}{c:Int}(hj:j<P.n)(he:T P 0 e)(h0:0<=c)(h1:c<P.o j)(ht:T P (j+1) t):T P 0 (aB j e c t):=by
  refine⟨λk hk=>A0,λk _ h2=>?_,λk hk=>?_⟩
  · rw[aB];split
    · exact he.r k A0 h2
    split
    · rename_i h;subst h;exact⟨h0,h1⟩
    exact ht.r k A0 h2
  rw[aB,if_neg A0,if_neg A0];exact ht.t k hk
theorem A0P{j:Nat}{e t:V}{c:Int}(ht:T P (j+1) t):tl (j+1) (aB j e c t)=t:=by
  funext k;simp only[tl,aB];split
  · exact(ht.z k (by assumption)).symm
  rw[if_neg A0,if_neg A0]
theorem jY(hv:GX P){j:Nat}{e t u:V}{c:Int}(ht:T P (j+1) t)(hu:T P (j+1) u):app P (j+1) (aB j e c t) u=aB j e c (M P (j+1) t u):=by
  funext k
  rw[app,A0P ht];simp only[aB];by_cases h:k<j+1
  · rw[if_pos h];by_cases h2:k<j
    · rw[if_pos h2,if_pos h2]
    rw[if_neg h2,if_neg h2,if_pos A0,if_pos A0]
  rw[if_neg h,if_neg A0,if_neg A0]
def tg0(P:Pc)(j:Nat)(e:V):Int×V:=if e j+1=P.o j then (0,P.pw j)else (e j+1,z0)
theorem Dq(hv:GX P){j:Nat}(hj:j<P.n)(hg:JU (T P (j+1)) (M P (j+1))){e:V}(he:T P 0 e):
    app P j e (un j)=aB j e (tg0 P j e).1 (JH (M P (j+1)) (P.cj j) e (P.n-(j+1)) (j+1) (tg0 P j e).2):=by
  have h1:=yW hv he j;have h2:=he.r j A0 hj;have h3:un j j=1:=D4;have h4:AX (un j) j 0=z0:=by rw[un,FW,M0]
  have h5:tl j e j=e j:=by rw[tl,if_neg A0]
  have h6:T P (j+1) (E2 P (M P (j+1)) j (AX (tl j e) j 0)):=Y6 hv (λ_ _=>gH hv) _;have h7:E2 P (M P (j+1)) j (AX (tl j e) j 0)=JH (M P (j+1)) (P.cj j) e (P.n-(j+1)) (j+1) z0:=by
    unfold E2;exact vA _ _ _ (λk q1 q2=>by rw[IX A0,tl,if_neg A0])
  funext k
  rw[app,UL hj];unfold mF;rw[h3,h4,h5];show(if k<j then e k else (if P.o j<=e j+1 then AX (M P (j+1) (P.pw j) (M P (j+1) (E2 P (M P (j+1)) j (AX (tl j e) j 0)) z0)) j (e j+1-P.o j)else AX (M P (j+1) (E2 P (M P (j+1)) j (AX (tl j e) j 0)) z0) j (e j+1)) k)=_
  rw[hg.r1 h6,h7,aB];by_cases hk:k<j
  · rw[if_pos hk,if_pos hk]
  rw[if_neg hk,if_neg hk];unfold tg0;by_cases hc:e j+1=P.o j
  · rw[if_pos A0,if_pos hc];simp only
    rw[hg.JH _ _ (P.pw j) (λk q1 q2=>hv.cj j k A0 A0) (hv.pw j hj)];simp only[AX];split
    · omega
    rfl
  rw[if_neg A0,if_neg hc];rfl
noncomputable def inv(P:Pc)(l:Nat)(a:V):V:=open Classical in if h:∃b,T P l b/\M P l a b=z0 then Classical.choose h else z0
section
variable{l:Nat}(hg:JU (T P l) (M P l))
include hg
theorem EK{a:V}(ha:T P l a):T P l (inv P l a)/\M P l a (inv P l a)=z0:=by
  obtain⟨b,h1,h2,h3⟩:=hg.iv ha;have h:∃b,T P l b/\M P l a b=z0:=⟨b,h1,h3⟩;unfold inv;rw[dif_pos h];exact Classical.choose_spec h
theorem inv_eq{a b:V}(ha:T P l a)(hb:T P l b)(h:M P l a b=z0):b=inv P l a:=by
  obtain⟨h1,h2⟩:=EK hg ha;exact hg.lc ha hb h1 (by rw[h,h2])
theorem A6A{a:V}(ha:T P l a):M P l (inv P l a) a=z0:=by
  obtain⟨h1,h2⟩:=EK hg ha;obtain⟨b,h3,h4,h5⟩:=hg.iv ha;rw[<-inv_eq hg ha h3 h5,h4]
theorem UO{a b x:V}(ha:T P l a)(hb:T P l b)(hx:T P l x):M P l (inv P l b) (M P l a b)=x↔M P l a b=M P l b x:=by
  obtain⟨h1,h2⟩:=EK hg hb;constructor
  · intro h;rw[<-h,<-hg.ac hb h1 (hg.cl ha hb),h2,hg.l1 (hg.cl ha hb)]
  intro h;rw[h,<-hg.ac h1 hb hx,A6A hg hb,hg.l1 hx]
end
end Go.Proofs.YtgknbnkmilddhaaGreat
