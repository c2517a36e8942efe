import Derived.Test.YtghmeeifjeafmaaGreatZ07
set_option linter.unusedVariables false
set_option linter.unusedSimpArgs false
namespace Go.Proofs.YtghmeeifjeafmaaGreat
inductive Fz (H H':HP):AV→AV→Prop
  |j (a:AV):Fz H H' a .j
  |refl (a:AV):Fz H H' a a
  |nl:Fz H H' .nl (.v 0 [])
  |h (id o n:Nat) (cs ts:List AV) (h1:H id=some cs) (h0:H' id=none) (h2:o+n≤cs.length) (h3:ts.length=n) (h4:∀(k:Nat) (x y:AV),cs[o+k]? =some x→ts[k]? =some y→Fz H H' x y):Fz H H' (.h id o n) (.v n ts)
  |hs (s id o n:Nat) (cs ts:List AV) (h1:H id=some cs) (h0:H' id=none) (h2:o+n*s≤cs.length) (h3:ts.length=n*s) (h4:∀(k:Nat) (x y:AV),cs[o+k]? =some x→ts[k]? =some y→Fz H H' x y):Fz H H' (.hs s id o n) (.v n ts)
  |q (id o:Nat) (cs ts:List AV) (h1:H id=some cs) (h0:H' id=none) (h3:ts.length=cs.length) (h4:∀(k:Nat) (x y:AV),cs[k]? =some x→ts[k]? =some y→Fz H H' x y):Fz H H' (.q id o) (.p o ts)
  |g (cs ts:List AV) (h3:ts.length=cs.length) (h4:∀(k:Nat) (x y:AV),cs[k]? =some x→ts[k]? =some y→Fz H H' x y):Fz H H' (.g cs) (.g ts)
  |t (cs ts:List AV) (h3:ts.length=cs.length) (h4:∀(k:Nat) (x y:AV),cs[k]? =some x→ts[k]? =some y→Fz H H' x y):Fz H H' (.t cs) (.t ts)
  |v (n:Nat) (cs ts:List AV) (h3:ts.length=cs.length) (h4:∀(k:Nat) (x y:AV),cs[k]? =some x→ts[k]? =some y→Fz H H' x y):Fz H H' (.v n cs) (.v n ts)
  |f (n:Nat) (cs ts:List AV) (h3:ts.length=cs.length) (h4:∀(k:Nat) (x y:AV),cs[k]? =some x→ts[k]? =some y→Fz H H' x y):Fz H H' (.f n cs) (.f n ts)
def L7(H H':HP):Prop:=∀id CX,H' id=some CX→∃cs,H id=some cs∧CX.length=cs.length∧∀(k:Nat) (x y:AV),cs[k]? =some x→CX[k]? =some y→Fz H H' x y
theorem L7.lb{L:LM}{H H':HP}(h:L7 H H'){b:Nat}:LB L H' b→LB L H b:=by
  rintro⟨id,cs,l,h1,h2,h3⟩;obtain⟨CX,h4,_⟩:=h id cs h1;exact⟨id,CX,l,h4,h2,h3⟩
theorem Fz.sound{L:LM}{H H':HP}{Av:Nat→Prop}{w:World}(s:SR L H Av w)(hh:L7 H H'){a t:AV}(v:Fz H H' a t):∀{u:Value},R L w (MM L H Av) a u→R L w (MM L H' Av) t u:=by
  have hM:∀{x:AV} {u:Value},R L w (MM L H Av) x u→R L w (MM L H' Av) x u:=fun h=>h.mono (fun _ _ h=>h) (fun _ _ _=>rfl) (fun _ _ h=>h.imp id hh.lb)
  have O2:∀(id:Nat) (cs:List AV) (l:Loc),H id=some cs→H' id=none→L id=some l→¬MM L H' Av l.D1:=by
    rintro id cs l h1 h0 hl (hb|⟨id',CX,l',g1,g2,g3⟩)
    · exact s.av id cs l h1 hl hb
    obtain⟨A1F,g4,_⟩:=hh id' CX g1;have:=s.inj id' id A1F cs l' l g4 h1 g2 hl g3;rw[this,h0]at g1;cases g1
  induction v with
  |j a=>intro u h;exact .j u
  |refl a=>intro u h;exact hM h
  |nl=>intro u h;rw[h.DZ];exact .v0 _ _
  | h id o n cs ts h1 h0 h2 h3 h4 ih=>
    intro u h;obtain⟨l,hl,CY⟩:=s.node id cs h1;cases h with
    | h _ _ _ l' ad cp GK hn hc ha YG=>
      rw[hl]at GK;cases GK;obtain⟨arr,e,e2,e3,e4,e5⟩:=CY.ex YG;by_cases LV:n=0
      · subst LV;have:ts=[]:=List.length_eq_zero_iff.1 h3;subst this;exact .v0 _ _
      rw[ha.resolve_left (by omega)];have DL:∀k,k<n→∃u,arr[l.off+o+k]? =some u∧R L w (MM L H Av) (cs.getD (o+k) .j) u:=by
        intro j hj;have BW:o+j<cs.length:=by omega
        obtain⟨u,h3,h4⟩:=e5 (o+j) cs[o+j] (List.getElem?_eq_getElem BW);exact⟨u,by rw[Nat.add_assoc];exact h3,by simpa[BW]using h4⟩
      refine .v n ts l.D1 (l.off+o) cp arr e _ (fun k=>arr.getD (l.off+o+k) undef) (O2 id cs l h1 h0 hl) e2 hn ?_ ?_
      · intro k hk;obtain⟨u,h6,_⟩:=DL k (by omega);rw[h6];simp[h6]
      intro k y hy;have hk:=(List.getElem?_eq_some_iff.1 hy).1;obtain⟨u,h6,h7⟩:=DL k (by omega);have BW:o+k<cs.length:=by omega
      have hx:cs[o+k]? =some (cs.getD (o+k) .j):=by simp[BW]
      have:=ih k _ y hx hy h7;rw[show arr.getD (l.off+o+k) undef=u by simp[h6]];exact this
  | hs z id o n cs ts h1 h0 h2 h3 h4 ih=>
    intro u h;obtain⟨l,hl,CY⟩:=s.node id cs h1;cases h with
    | hs _ _ _ _ l' ad cp GK hn hc ha YG=>
      rw[hl]at GK;cases GK;obtain⟨arr,e,e2,e3,e4,e5⟩:=CY.ex YG;by_cases LV:n=0
      · subst LV;have:ts=[]:=List.length_eq_zero_iff.1 (by simpa using h3);subst this;exact .v0 _ _
      rw[ha.resolve_left (by omega)];have DL:∀k,k<n*z→∃u,arr[l.off+o+k]? =some u∧R L w (MM L H Av) (cs.getD (o+k) .j) u:=by
        intro j hj;have BW:o+j<cs.length:=by omega
        obtain⟨u,h3,h4⟩:=e5 (o+j) cs[o+j] (List.getElem?_eq_getElem BW);exact⟨u,by rw[Nat.add_assoc];exact h3,by simpa[BW]using h4⟩
      refine .v n ts l.D1 (l.off+o) cp arr e _ (fun k=>arr.getD (l.off+o+k) undef) (O2 id cs l h1 h0 hl) e2 hn ?_ ?_
      · intro k hk;obtain⟨u,h6,_⟩:=DL k (by omega);rw[h6];simp[h6]
      intro k y hy;have hk:=(List.getElem?_eq_some_iff.1 hy).1;obtain⟨u,h6,h7⟩:=DL k (by omega);have BW:o+k<cs.length:=by omega
      have hx:cs[o+k]? =some (cs.getD (o+k) .j):=by simp[BW]
      have:=ih k _ y hx hy h7;rw[show arr.getD (l.off+o+k) undef=u by simp[h6]];exact this
  | q id o cs ts h1 h0 h3 h4 ih=>
    intro u h;obtain⟨l,hl,CY⟩:=s.node id cs h1;obtain⟨l',⟨GK,YG⟩,hu⟩:=h.XG;rw[hl]at GK;cases GK;obtain⟨arr,e,e2,e3,e4,e5⟩:=CY.ex YG;rw[hu];refine .p o ts l.D1 l.off arr e _ (fun k=>arr.getD (l.off+k) undef) (O2 id cs l h1 h0 hl) e2 ?_ ?_
    · intro k hk;obtain⟨u,h6,_⟩:=e5 k cs[k] (List.getElem?_eq_getElem (by omega));rw[h6];simp[h6]
    intro k y hy;have hk:=(List.getElem?_eq_some_iff.1 hy).1;obtain⟨u,h6,h7⟩:=e5 k cs[k] (List.getElem?_eq_getElem (by omega));have:=ih k _ y (List.getElem?_eq_getElem (by omega)) hy h7;rw[show arr.getD (l.off+k) undef=u by simp[h6]];exact this
  | g cs ts h3 h4 ih=>
    intro u h;cases h with
    | g _ us hs hr=>
      refine .g ts us (by omega) ?_;intro k y hy;have hk:=(List.getElem?_eq_some_iff.1 hy).1;have hx:cs[k]? =some cs[k]:=List.getElem?_eq_getElem (by omega);exact ih k _ y hx hy (hr k _ hx)
  | t cs ts h3 h4 ih=>
    intro u h;cases h with
    | t _ us hs hr=>
      refine .t ts us (by omega) ?_;intro k y hy;have hk:=(List.getElem?_eq_some_iff.1 hy).1;have hx:cs[k]? =some cs[k]:=List.getElem?_eq_getElem (by omega);exact ih k _ y hx hy (hr k _ hx)
  | f n cs ts h3 h4 ih=>
    intro u h;cases h with
    | f _ _ us hs hr=>
      refine .f n ts us (by omega) ?_;intro k y hy;have hk:=(List.getElem?_eq_some_iff.1 hy).1;have hx:cs[k]? =some cs[k]:=List.getElem?_eq_getElem (by omega);exact ih k _ y hx hy (hr k _ hx)
  | v n cs ts h3 h4 ih=>
    intro u h;cases h with
    | v0 a cp=>
      have:ts=[]:=List.length_eq_zero_iff.1 (by simpa using h3);subst this;exact .v0 _ _
    | v _ _ b off cp arr e f us hm hb hn hu hr=>
      refine .v n ts b off cp arr e f us (fun h=>hm (h.imp id hh.lb)) hb hn (fun k hk=>hu k (by omega)) ?_;intro k y hy;have hk:=(List.getElem?_eq_some_iff.1 hy).1;have hx:cs[k]? =some cs[k]:=List.getElem?_eq_getElem (by omega);exact ih k _ y hx hy (hr k _ hx)
theorem SR.fz{L:LM}{H H':HP}{Av:Nat→Prop}{w:World}(s:SR L H Av w)(h:L7 H H'):SR L H' Av w:=by
  refine⟨?_,?_,?_,s.LP⟩
  · intro id CX DA;obtain⟨cs,h1,h2,h3⟩:=h id CX DA;obtain⟨l,h4,CY⟩:=s.node id cs h1;exact⟨l,h4,CY.trans rfl h2 fun k x y hx hy u LU=>(h3 k x y hx hy).sound s h LU⟩
  · intro i i' c c' l l' h1 h2;obtain⟨d,g1,_⟩:=h i c h1;obtain⟨d',g2,_⟩:=h i' c' h2;exact s.inj i i' d d' l l' g1 g2
  intro i c l h1;obtain⟨d,g1,_⟩:=h i c h1;exact s.av i d l g1
def Mo(H H':HP):List AV→List AV→Prop
  |[],[]=>True
  |x::xs,y::ys=>Fz H H' x y∧Mo H H' xs ys
  |_,_=>False
structure WkF(s s':St):Prop where
  sl:Mo s.H s'.H s.t s'.t
  hp:L7 s.H s'.H
  nx:s.nx≤s'.nx
theorem iH{H H':HP}:∀{xs ys:List AV},Mo H H' xs ys→ys.length=xs.length∧∀(k:Nat) (y:AV),ys[k]? =some y→∃x,xs[k]? =some x∧Fz H H' x y:=by
  intro xs;induction xs with
  |nil=>intro ys h;cases ys with|nil=>exact⟨rfl,by simp⟩|cons=>exact h.elim
  | cons x xs ih=>
    intro ys h;cases ys with
    |nil=>exact h.elim
    | cons y ys=>
      obtain⟨h1,h2⟩:=ih h.2;refine⟨by simp[h1],?_⟩;intro k z hk;cases k with
      |zero=>simp at hk;subst hk;exact⟨x,rfl,h.1⟩
      |succ k=>exact h2 k z (by simpa using hk)
theorem Cn.fz{cX:Ctx}{s s':St}{L:LM}{a:Act}{w:World}(c:Cn cX s L a w)(h:WkF s s'):Cn cX s' L a w:=by
  obtain⟨h1,h2,h3⟩:=h;obtain⟨h4,h5⟩:=iH h1;refine⟨c.df,by rw[c.sz,h4],?_,c.sr.fz h2,fun i hi=>c.fr i (by omega),by have:=c.nx;omega,c.lo,?_⟩
  · intro k y hk;obtain⟨x,h6,h7⟩:=h5 k y hk;exact h7.sound c.sr h2 (c.sl k x h6)
  exact⟨c.st.le,c.st.os,c.st.tape,c.st.output,c.st.size,c.st.AD,fun b hb hl=>c.st.old b hb (h2.lb hl)⟩
theorem AW.fz{cX:Ctx}{P:Program}{c:Code}{s s':St}{K:Exit→St→Prop}(h:WkF s s')(hs:AW cX P c s' K):AW cX P c s K:=
  fun L a w Q hc hQ=>hs L a w Q (hc.fz h) hQ
theorem M3{H H':HP}:∀{xs:List AV},Mo H H' xs xs:=by
  intro xs;induction xs with
  |nil=>trivial
  |cons x xs ih=>exact⟨.refl _,ih⟩
theorem YP{H H':HP}:∀{xs:List AV} {k:Nat} {x y:AV},xs[k]? =some x→Fz H H' x y→Mo H H' xs (xs.set k y):=by
  intro xs;induction xs with
  |nil=>intro k x y h;simp at h
  | cons z zs ih=>
    intro k x y h hf;cases k with
    |zero=>simp at h;subst h;exact⟨hf,M3⟩
    |succ k=>exact⟨.refl _,ih (by simpa using h) hf⟩
theorem L7.del{H:HP}{id:Nat}:L7 H (AU H id none):=by
  intro i CX h;by_cases e:i=id
  · subst e;rw[A1]at h;cases h
  rw[A0 _ _ e]at h;exact⟨CX,h,rfl,fun k x y h1 h2=>by rw[h1]at h2;cases h2;exact .refl _⟩
theorem AW.freeze{cX:Ctx}{P:Program}{c:Code}{s:St}{K:Exit→St→Prop}(k id n:Nat)(cs:List AV)(hk:s.t[k]? =some (.h id 0 n))(hc:s.H id=some cs)(hn:cs.length=n)
    (hs:AW cX P c ⟨s.t.set k (.v n cs),AU s.H id none,s.nx⟩ K):AW cX P c s K:=
  AW.fz (s':=⟨s.t.set k (.v n cs),AU s.H id none,s.nx⟩) ⟨YP hk (.h id 0 n cs cs hc (A1 _ _ _) (by omega) hn (fun k x y h1 h2=>by rw[Nat.zero_add,h2]at h1;cases h1;exact .refl _)),L7.del,Nat.le_refl _⟩ hs
theorem L7.push{H:HP}{i j n:Nat}{cs ds:List AV}(h1:H i=some (cs++[.h j 0 n]))(h2:H j=some ds)(hn:ds.length=n)(JI:i≠j):L7 H (AU (AU H j none) i (some (cs++[.v n ds]))):=by
  intro k CX hk;by_cases e:k=i
  · subst e;rw[A1]at hk;cases hk;refine⟨_,h1,by simp,fun q x y hx hy=>?_⟩;rw[List.getElem?_append]at hx hy;split at hx
    · rename_i hq;rw[if_pos hq]at hy;rw[hx]at hy;cases hy;exact .refl _
    rename_i hq;rw[if_neg hq]at hy;have QL:q-cs.length=0:=by have:=(List.getElem?_eq_some_iff.1 hx).1;simp at this;omega
    rw[QL]at hx hy;simp at hx hy;subst hx;subst hy;exact .h j 0 n ds ds h2 (by rw[A0 _ _ (Ne.symm JI),A1]) (by omega) hn (fun q x y h1 h2=>by rw[Nat.zero_add,h2]at h1;cases h1;exact .refl _)
  rw[A0 _ _ e]at hk;by_cases e2:k=j
  · subst e2;rw[A1]at hk;cases hk
  rw[A0 _ _ e2]at hk;exact⟨CX,hk,rfl,fun q x y h1 h2=>by rw[h1]at h2;cases h2;exact .refl _⟩
theorem AW.Hc{cX:Ctx}{P:Program}{c:Code}{s:St}{K:Exit→St→Prop}(i j n:Nat)(cs ds:List AV)(h1:s.H i=some (cs++[.h j 0 n]))(h2:s.H j=some ds)(hn:ds.length=n)(JI:i≠j)
    (hs:AW cX P c ⟨s.t,AU (AU s.H j none) i (some (cs++[.v n ds])),s.nx⟩ K):AW cX P c s K:=
  AW.fz (s':=⟨s.t,AU (AU s.H j none) i (some (cs++[.v n ds])),s.nx⟩) ⟨M3,L7.push h1 h2 hn JI,Nat.le_refl _⟩ hs
theorem BG.GD{P:Program}{Γ:BV}(hG:GJ P Γ){f:FuncId}{fn:Func}{c:Code}{n:Nat}{rs:Array ResultVar}(hf:P.funcs[f]? =some fn)(hb:fn.body=some c)(hn:(fn.name== "runtime.NumGoroutine")=false)(eC:fn.ntmps=n)(PH:fn.results=rs){xs:List AV}{r:AV}(hr:NR r)
    (h:∀nx (cX:Ctx),AW cX P c ⟨xs++List.replicate (n-xs.length) .j,BN,nx⟩ (WM Γ rs.toList fun _ H' r'=>Vw H' r' r)):BG P f xs r:=by
  refine⟨⟨fn,hf,by rw[hb];rfl,hn⟩,?_⟩;rintro L M w us hM ⟨nx,C7⟩ ha;refine((AC.AM hG hf hb hn eC PH (h nx)).2 L M w us (LX hM) C7 (by rw[LY];exact ha)).mono ?_;rintro e w' ⟨u,r',L',nx',H',g1,g0,g2,g3,g4,g5,g6,g7⟩;refine⟨u,g1,⟨fun _ _ h=>h,g6.os,g6.tape,g6.output,g6.size,g6.AD,fun b _ hb=>absurd hb HG⟩,(g0.sound g5 g7).nr hr⟩
theorem TC(a:List (List Int)):NR (rows a):= .v _ _ (fun k y hk=>by
  obtain⟨z,_,rfl⟩:=List.mem_map.1 (List.mem_of_getElem? hk);exact TB z)
theorem WR(a:List Int)(ha:a.length≤1099511627776):BG Tryz.prog 104 [ints a] (ints a):=by
  have:=(mT.Yr (fun nx=>CB a ha nx BN)).pure;rwa [←YO]at this
theorem Hd(x:List Int):(∀z∈ [ints x],one z=true)=True:=by
  refine eq_true (fun z hz=>?_);rw[List.mem_singleton.1 hz];rfl
theorem He(n:Nat)(cs:List AV):(∀z∈ [AV.v n cs],one z=true)=True:=by
  refine eq_true (fun z hz=>?_);rw[List.mem_singleton.1 hz];rfl
theorem wO{α:Type}{f:α→AV}{u:List α}{k:Nat}:List.take k (List.map f (List.take k u))=List.map f (List.take k u):=by rw[←List.map_take,List.take_take,Nat.min_self]
attribute [go_sem] He wO Hd List.length_drop
theorem Le.del{H:HP}{j:Nat}(h:H j=none):Le H (AU H j none):=by
  intro i c hi;by_cases e:i=j
  · subst e;rw[h]at hi;cases hi
  rw[A0 _ _ e];exact hi
theorem Vw.fr{H:HP}{id n:Nat}{xs:List AV}(h:H id=some xs)(hn:xs.length=n):Vw H (.h id 0 n) (.v n xs):=
  .h id 0 n _ _ h (by omega) hn (fun k x y hx hy=>by rw[Nat.zero_add,hy]at hx;cases hx;exact .refl _)
def oA:Option Nat→Nat→AV
  |none,_=> .nl
  |some id,k=> .h id 0 k
def oH(H:HP):Option Nat→List AV→HP
  |none,_=>H
  |some id,cs=>AU H id (some cs)
theorem Hf(k:IntKind)(n:Int):(∀z∈ [AV.i k n],one z=true)=True:=by
  refine eq_true (fun z hz=>?_);rw[List.mem_singleton.1 hz];rfl
attribute [go_sem] Hf
theorem wP{H:HP}{id n:Nat}{xs:List Int}(h:H id=some (xs.map (.i .i64)))(hn:n=xs.length):Vw H (.h id 0 n) (ints xs):=by
  subst hn;exact .h id 0 _ _ _ h (by simp) (by simp) (fun k x y hx hy=>by rw[Nat.zero_add,hy]at hx;cases hx;exact .refl _)
def mU(m:Nat)(H:HP):HP:=fun i=>if i<m then H i else none
theorem AW.B5{cX:Ctx}{P:Program}{c:Code}{s:St}{K:Exit→St→Prop}(k id:Nat)(cs:List AV)(hk:s.t[k]? =some (.q id 0))(hc:s.H id=some cs)
    (hs:AW cX P c ⟨s.t.set k (.p 0 cs),AU s.H id none,s.nx⟩ K):AW cX P c s K:=
  AW.fz (s':=⟨s.t.set k (.p 0 cs),AU s.H id none,s.nx⟩) ⟨YP hk (.q id 0 cs cs hc (A1 _ _ _) rfl (fun k x y h1 h2=>by rw[h2]at h1;cases h1;exact .refl _)),L7.del,Nat.le_refl _⟩ hs
theorem B1{α β:Type}{f:α→β}{xs:List α}:(xs.map f).take xs.length=xs.map f:=List.take_of_length_le (by rw[List.length_map];exact Nat.le_refl _)
theorem AC.fz{P:Program}{f:FuncId}{nx:Nat}{H H':HP}{xs ts:List AV}{Q:Nat→HP→AV→Prop}(hh:L7 H H')(ha:Mo H H' xs ts)(h:AC P f nx H' ts Q):AC P f nx H xs Q:=by
  refine⟨h.1,fun L Av w us hs C7 oS=>(h.2 L Av w us (hs.fz hh) C7 ?_).mono ?_⟩
  · obtain⟨h4,h5⟩:=iH ha;refine⟨by rw[oS.1,h4],fun k y hk=>?_⟩;obtain⟨x,h6,h7⟩:=h5 k y hk;exact h7.sound hs hh (oS.2 k x h6)
  rintro e w' ⟨u,r,L',nx',H2,h1,h2,h3,h4,h5,h6,h7,h8⟩;exact⟨u,r,L',nx',H2,h1,h2,h3,h4,h5,h6,⟨h7.le,h7.os,h7.tape,h7.output,h7.size,fun b hb hn=>h7.AD b hb (fun hl=>hn (hh.lb hl)),fun b hb hl=>hh.lb (h7.old b hb hl)⟩,h8⟩
theorem Fz.D1{H:HP}{id n:Nat}{cs:List AV}(hc:H id=some cs)(hn:cs.length=n):Fz H (AU H id none) (.h id 0 n) (.v n cs):=
  .h id 0 n cs cs hc (A1 _ _ _) (by omega) hn (fun k x y h1 h2=>by rw[Nat.zero_add,h2]at h1;cases h1;exact .refl _)
theorem AC.frame{P:Program}{f:FuncId}{nx:Nat}{H:HP}{xs:List AV}{Q:Nat→HP→AV→Prop}(h:AC P f nx BN xs Q):AC P f nx H xs fun nx' H' r=>∃H0,Q nx' H0 r∧(∀i,i<nx→H' i=H i)∧∀i,nx≤i→H' i=H0 i:=by
  refine⟨h.1,fun L Av w us hs C7 ha=>(h.2 L (MM L H Av) w us (LX (nV hs)) C7 (by rw[LY];exact ha)).mono ?_⟩;rintro e w' ⟨u,r,L',nx',H0,h1,h2,h3,h4,h5,h6,h7,h8⟩;let H2:HP:=fun i=>if i<nx then H i else H0 i
  have CK:∀i,i<nx→H2 i=H i:=fun i hi=>by simp only[H2,hi,if_true]
  have F4:∀i,nx≤i→H2 i=H0 i:=fun i hi=>by simp only[H2];rw[if_neg (by omega)]
  have GA:∀b,b<w.heap.size→w'.heap[b]? =w.heap[b]? :=fun b hb=>h7.AD b hb HG
  have Yj:∀i cs,H i=some cs→i<nx:=fun i cs hi=>by
    apply Classical.byContradiction;intro hn;obtain⟨l,g1,_⟩:=hs.node i cs hi;rw[C7 i (by omega)]at g1;cases g1
  have live:∀i cs,H2 i=some cs→(i<nx∧H i=some cs)∨(nx≤i∧H0 i=some cs):=by
    intro i cs hi;rcases Nat.lt_or_ge i nx with h|h
    · rw[CK i h]at hi;exact .inl ⟨h,hi⟩
    rw[F4 i h]at hi;exact .inr ⟨h,hi⟩
  have I9:∀i cs l,H0 i=some cs→L' i=some l→w.heap.size≤l.D1:=by
    intro i cs l g1 g2;apply Classical.byContradiction;intro BW;exact HG (h7.old l.D1 (by omega) ⟨i,cs,l,g1,g2,rfl⟩)
  have QP:∀b,LB L' H2 b→LB L H b∨LB L' H0 b:=by
    rintro b ⟨i,cs,l,g1,g2,g3⟩;rcases live i cs g1 with ⟨q1,q2⟩|⟨q1,q2⟩
    · exact .inl ⟨i,cs,l,q2,by rw[←h5 i q1];exact g2,g3⟩
    exact .inr ⟨i,cs,l,q2,g2,g3⟩
  have hMM:∀b,MM L' H2 Av b→MM L' H0 (MM L H Av) b:=by
    rintro b (hb|hb)
    · exact .inl (.inl hb)
    exact(QP b hb).elim (fun h=> .inl (.inr h)) .inr
  have EM:Step L H w L' H2 w':=by
    refine⟨h7.le,h7.os,h7.tape,h7.output,h7.size,fun b hb _=>GA b hb,?_⟩;rintro b hb hl;rcases QP b hl with g|⟨i,cs,l,g1,g2,g3⟩
    · exact g
    have:=I9 i cs l g1 g2;omega
  refine⟨u,r,L',nx',H2,h1,⟨H0,h2,CK,F4⟩,h3,h4,h5,⟨?_,?_,?_,fun b hb=>Nat.lt_of_lt_of_le (hs.LP b hb) h7.size⟩,EM,h8.mono (fun _ _ h=>h) (fun _ _ _=>rfl) (fun b _ hb=>hMM b hb)⟩
  · intro i cs hi;rcases live i cs hi with ⟨g4,g5⟩|⟨g4,g5⟩
    · obtain⟨l,g7,CY⟩:=hs.node i cs g5;exact⟨l,by rw[h5 i g4];exact g7,CY.mono (GA _ CY.lt) fun k x hk c oJ=>oJ.step EM⟩
    obtain⟨l,g7,CY⟩:=h6.node i cs g5;exact⟨l,g7,CY.mono rfl fun k x hk c oJ=>oJ.mono (fun _ _ h=>h) (fun _ _ _=>rfl) (fun b _ hb=>hMM b hb)⟩
  · intro i i' cs CX l l' g1 g2 g3 g4 g5;rcases live i cs g1 with ⟨q1,q2⟩|⟨q1,q2⟩<;>rcases live i' CX g2 with ⟨q4,q5⟩|⟨q4,q5⟩
    · exact hs.inj i i' cs CX l l' q2 q5 (by rw[←h5 i q1];exact g3) (by rw[←h5 i' q4];exact g4) g5
    · have a1:=IX hs ⟨i,cs,l,q2,by rw[←h5 i q1];exact g3,rfl⟩;have a2:=I9 i' CX l' q5 g4;omega
    · have a1:=IX hs ⟨i',CX,l',q5,by rw[←h5 i' q4];exact g4,rfl⟩;have a2:=I9 i cs l q2 g3;omega
    exact h6.inj i i' cs CX l l' q2 q5 g3 g4 g5
  intro i cs l g1 g2;rcases live i cs g1 with ⟨q1,q2⟩|⟨q1,q2⟩
  · exact hs.av i cs l q2 (by rw[←h5 i q1];exact g2)
  exact fun hv=>h6.av i cs l q2 g2 (.inl hv)
theorem Vw.D1{H:HP}{id n:Nat}{cs:List AV}(hc:H id=some cs)(hn:n=cs.length):Vw H (.h id 0 n) (.v n cs):=by
  subst hn;exact .h id 0 cs.length cs cs hc (by omega) rfl (fun k x y hx hy=>by rw[Nat.zero_add,hy]at hx;cases hx;exact .refl _)
theorem WK.rfl{H:HP}:∀{cs:List AV},WK H cs cs:=by
  intro cs;induction cs with
  |nil=>exact .nil
  |cons c cs ih=>exact .cons (.refl _) ih
theorem oT(a:List (List (List Int))):NR (A4 a):= .v _ _ (fun k y hk=>by
  simp only[List.getElem?_map,Option.map_eq_some_iff]at hk;obtain⟨z,_,rfl⟩:=hk;exact TC z)
theorem GW{r:AV}(h:one r=true):(∀z∈ [r],one z=true)=True:=eq_true (fun z hz=>by rw[List.mem_singleton.1 hz];exact h)
theorem AW.BD{cX:Ctx}{P:Program}{c:Code}{s:St}{K:Exit→St→Prop}(h:∀G,s.H=G→AW cX P c ⟨s.t,G,s.nx⟩ K):AW cX P c s K:=h _ rfl
def CW{α:Type}(f:α→α):Nat→α→α
  |0,x=>x
  |k+1,x=>f (CW f k x)
theorem KE{α:Type}(f:α→α)(a b:Nat)(x:α):CW f (a+b) x=CW f b (CW f a x):=by
  induction b with
  |zero=>rfl
  |succ b ih=>rw[←Nat.add_assoc,CW,CW,ih]
theorem GN{α:Type}{f:α→α}{p:α→Prop}(hf:∀x,p x→p (f x)):∀k x,p x→p (CW f k x):=by
  intro k;induction k with
  |zero=>exact fun _ h=>h
  |succ k ih=>exact fun x h=>hf _ (ih x h)
abbrev V:=Nat→Int
def z0:V:=fun _=>0
theorem J1{i:Nat}:AX z0 i 0=z0:=by funext k;simp[AX,z0]
theorem CM{f:V}{i:Nat}{x:Int}:AX f i x i=x:=by simp[AX]
theorem GO{f:V}{i k:Nat}{x:Int}(h:k≠i):AX f i x k=f k:=by simp[AX,h]
theorem EO{f:V}{i:Nat}{x y:Int}:AX (AX f i x) i y=AX f i y:=by funext k;simp only[AX];split<;>rfl
theorem F8{f:V}{i:Nat}{x:Int}(h:f i=x):AX f i x=f:=by funext k;simp only[AX];split<;>simp_all
structure Pc where
  n:Nat
  o:Nat→Int
  pw:Nat→V
  cj:Nat→Nat→V
def HB(mul:V→V→V)(c:Nat→V)(x:V):Nat→Nat→V→V
  |0,_,u=>u
  |m+1,j,u=>HB mul c x m (j+1) (CW (fun u=>mul u (c j)) (x j).toNat u)
def DC(P:Pc)(mul:V→V→V)(i:Nat)(x:V):V:=HB mul (P.cj i) x (P.n-(i+1)) (i+1) z0
def ZZ(P:Pc)(i:Nat)(mul:V→V→V)(a b:V):V:=
  if P.o i≤a i+b i then AX (mul (P.pw i) (mul (CW (DC P mul i) (b i).toNat (AX a i 0)) (AX b i 0))) i (a i+b i-P.o i)
  else AX (mul (CW (DC P mul i) (b i).toNat (AX a i 0)) (AX b i 0)) i (a i+b i)
def Md(P:Pc):Nat→V→V→V
  |0=>fun _ _=>z0
  |d+1=>ZZ P (P.n-(d+1)) (Md P d)
def M(P:Pc)(i:Nat):V→V→V:=Md P (P.n-i)
theorem WS{P:Pc}{i:Nat}(h:P.n≤i)(a b:V):M P i a b=z0:=by
  rw[M,show P.n-i=0 by omega];rfl
theorem PN{P:Pc}{i:Nat}(h:i<P.n):M P i=ZZ P i (M P (i+1)):=by
  rw[M,M,show P.n-i=(P.n-(i+1))+1 by omega,Md,show P.n-(P.n-(i+1)+1)=i by omega]
structure T(P:Pc)(i:Nat)(x:V):Prop where
  z:∀k,k<i→x k=0
  r:∀k,i≤k→k<P.n→0≤x k∧x k<P.o k
  t:∀k,P.n≤k→x k=0
structure F9(P:Pc):Prop where
  o:∀i,i<P.n→1<P.o i
  pw:∀i,i<P.n→T P (i+1) (P.pw i)
  cj:∀i j,i<j→j<P.n→T P (i+1) (P.cj i j)
variable{P:Pc}
theorem T.ge{i:Nat}{x:V}(h:T P i x)(hi:P.n≤i):x=z0:=by
  funext k
  by_cases e:k<i
  · exact h.z k e
  exact h.t k (by omega)
theorem T.zero(hv:F9 P)(i:Nat):T P i z0:=⟨fun _ _=>rfl,fun k _ h=>by have:=hv.o k h;exact⟨Int.le_refl _,by show(0:Int)<_;omega⟩,fun _ _=>rfl⟩
theorem T.mono(hv:F9 P){i j:Nat}(JI:i≤j){x:V}(h:T P j x):T P i x:=
  ⟨fun k hk=>h.z k (by omega),fun k h1 h2=>by
    by_cases e:j≤k
    · exact h.r k e h2
    rw[h.z k (by omega)];have:=hv.o k h2;omega,h.t⟩
theorem T.cut{i:Nat}{x:V}(h:T P i x):T P (i+1) (AX x i 0):=
  ⟨fun k hk=>by
    by_cases e:k=i
    · subst e;exact CM
    rw[GO e];exact h.z k (by omega),
   fun k h1 h2=>by rw[GO (by omega)];exact h.r k (by omega) h2,
   fun k hk=>by
    by_cases e:k=i
    · subst e;exact CM
    rw[GO e];exact h.t k hk⟩
theorem T.put{i:Nat}(hi:i<P.n){x:V}(h:T P (i+1) x){a:Int}(h0:0≤a)(h1:a<P.o i):T P i (AX x i a):=
  ⟨fun k hk=>by rw[GO (by omega)];exact h.z k (by omega),
   fun k h2 h3=>by
    by_cases e:k=i
    · subst e;rw[CM];exact⟨h0,h1⟩
    rw[GO e];exact h.r k (by omega) h3,
   fun k hk=>by rw[GO (by omega)];exact h.t k hk⟩
theorem T.M4{i:Nat}{x:V}(h:T P (i+1) x)(a:Int):AX (AX x i a) i 0=x:=by
  rw[EO];exact F8 (h.z i (by omega))
theorem Bi{mul:V→V→V}{N:V→Prop}(hm:∀a b,N a→N b→N (mul a b)){c:Nat→V}{x:V}:∀m j u,(∀k,j≤k→k<j+m→N (c k))→N u→N (HB mul c x m j u):=by
  intro m;induction m with
  |zero=>exact fun _ _ _ h=>h
  | succ m ih=>
    intro j u hc hu;exact ih (j+1) _ (fun k h1 h2=>hc k (by omega) (by omega)) (GN (fun y hy=>hm _ _ hy (hc j (by omega) (by omega))) _ _ hu)
theorem RY(hv:F9 P){mul:V→V→V}{i:Nat}(hm:∀a b,T P (i+1) a→T P (i+1) b→T P (i+1) (mul a b))(x:V):T P (i+1) (DC P mul i x):=
  Bi hm _ _ _ (fun k h1 h2=>hv.cj i k (by omega) (by omega)) (T.zero hv _)
theorem Rs(hv:F9 P){mul:V→V→V}{i:Nat}(hi:i<P.n)(hm:∀a b,T P (i+1) a→T P (i+1) b→T P (i+1) (mul a b)){a b:V}(ha:T P i a)(hb:T P i b):T P i (ZZ P i mul a b):=by
  have h1:=ha.r i (by omega) hi;have h2:=hb.r i (by omega) hi;have h3:T P (i+1) (mul (CW (DC P mul i) (b i).toNat (AX a i 0)) (AX b i 0)):=hm _ _ (GN (fun y _=>RY hv hm y) _ _ ha.cut) hb.cut;unfold ZZ;split
  · exact T.put hi (hm _ _ (hv.pw i hi) h3) (by omega) (by omega)
  exact T.put hi h3 (by omega) (by omega)
theorem TF(hv:F9 P){i:Nat}{a b:V}(ha:T P i a)(hb:T P i b):T P i (M P i a b):=by
  by_cases hi:P.n≤i
  · rw[WS hi];exact T.zero hv _
  have key:∀d i,P.n-i=d→∀a b,T P i a→T P i b→T P i (M P i a b):=by
    intro d;induction d with
    |zero=>intro i hd a b _ _;rw[WS (by omega)];exact T.zero hv _
    | succ d ih=>
      intro i hd a b ha hb;rw[PN (by omega)];exact Rs hv (by omega) (ih (i+1) (by omega)) ha hb
  exact key _ i rfl a b ha hb
structure HL(N:V→Prop)(m:V→V→V):Prop where
  cl:∀{a b},N a→N b→N (m a b)
  ac:∀{a b c},N a→N b→N c→m (m a b) c=m a (m b c)
  e0:N z0
  l1:∀{a},N a→m z0 a=a
  r1:∀{a},N a→m a z0=a
  iv:∀{a},N a→∃b,N b∧m b a=z0∧m a b=z0
section
variable{N:V→Prop}{m:V→V→V}
theorem HL.lc(h:HL N m){a b c:V}(ha:N a)(hb:N b)(hc:N c)(e:m a b=m a c):b=c:=by
  obtain⟨v,h1,h2,h3⟩:=h.iv ha;rw[←h.l1 hb,←h2,h.ac h1 ha hb,e,←h.ac h1 ha hc,h2,h.l1 hc]
theorem HL.rc(h:HL N m){a b c:V}(ha:N a)(hb:N b)(hc:N c)(e:m b a=m c a):b=c:=by
  obtain⟨v,h1,h2,h3⟩:=h.iv ha;rw[←h.r1 hb,←h3,←h.ac hb ha h1,e,h.ac hc ha h1,h3,h.r1 hc]
def rep(m:V→V→V)(x:V)(k:Nat):V:=CW (fun u=>m u x) k z0
theorem HL.rep(h:HL N m){x:V}(hx:N x)(k:Nat):N (rep m x k):=GN (fun y hy=>h.cl hy hx) _ _ h.e0
theorem HL.iI(h:HL N m){x u:V}(hx:N x)(hu:N u)(k:Nat):CW (fun u=>m u x) k u=m u (Go.Proofs.YtghmeeifjeafmaaGreat.rep m x k):=by
  induction k with
  |zero=>exact(h.r1 hu).symm
  |succ k ih=>rw[CW,ih,h.ac hu (h.rep hx k) hx];rfl
theorem HL.EP(h:HL N m){x:V}(hx:N x)(a b:Nat):Go.Proofs.YtghmeeifjeafmaaGreat.rep m x (a+b)=m (Go.Proofs.YtghmeeifjeafmaaGreat.rep m x a) (Go.Proofs.YtghmeeifjeafmaaGreat.rep m x b):=by
  rw[Go.Proofs.YtghmeeifjeafmaaGreat.rep,KE,←h.iI hx (h.rep hx a)];rfl
theorem HL.iJ(h:HL N m){x:V}(hx:N x):Go.Proofs.YtghmeeifjeafmaaGreat.rep m x 1=x:=h.l1 hx
theorem HL.lA(h:HL N m){x:V}(hx:N x)(k:Nat):Go.Proofs.YtghmeeifjeafmaaGreat.rep m x (k+1)=m x (Go.Proofs.YtghmeeifjeafmaaGreat.rep m x k):=by
  rw[Nat.add_comm,h.EP hx,h.iJ hx]
theorem HL.HB(h:HL N m){c:Nat→V}{x:V}:∀q j u,(∀k,j≤k→k<j+q→N (c k))→N u→Go.Proofs.YtghmeeifjeafmaaGreat.HB m c x q j u=m u (Go.Proofs.YtghmeeifjeafmaaGreat.HB m c x q j z0):=by
  intro q;induction q with
  |zero=>exact fun _ u _ hu=>(h.r1 hu).symm
  | succ q ih=>
    intro j u hc hu;have hj:N (c j):=hc j (by omega) (by omega);have PF:∀k,j+1≤k→k<j+1+q→N (c k):=fun k h1 h2=>hc k (by omega) (by omega)
    have h3:=Bi (fun a b=>h.cl) q (j+1) z0 PF h.e0 (x:=x);rw[Go.Proofs.YtghmeeifjeafmaaGreat.HB,ih (j+1) _ PF (GN (fun y hy=>h.cl hy hj) _ _ hu),h.iI hj hu,h.ac hu (h.rep hj _) h3,Go.Proofs.YtghmeeifjeafmaaGreat.HB,
      ih (j+1) (CW _ _ z0) PF (GN (fun y hy=>h.cl hy hj) _ _ h.e0)]
    rfl
end
structure Ext(N:V→Prop)(m:V→V→V)(p:Nat)(w:V)(φ:V→V):Prop where
  g:HL N m
  fc:∀{x},N x→N (φ x)
  fm:∀{x y},N x→N y→φ (m x y)=m (φ x) (φ y)
  f0:φ z0=z0
  hw:N w
  fw:φ w=w
  Mp:∀{x},N x→m w (CW φ p x)=m x w
section
variable{N:V→Prop}{m:V→V→V}{p:Nat}{w:V}{φ:V→V}
theorem Ext.ic(h:Ext N m p w φ){x:V}(hx:N x)(k:Nat):N (CW φ k x):=GN (fun _ h'=>h.fc h') _ _ hx
theorem Ext.im(h:Ext N m p w φ){x y:V}(hx:N x)(hy:N y)(k:Nat):CW φ k (m x y)=m (CW φ k x) (CW φ k y):=by
  induction k with
  |zero=>rfl
  |succ k ih=>rw[CW,ih,h.fm (h.ic hx k) (h.ic hy k)];rfl
theorem Ext.i0(h:Ext N m p w φ)(k:Nat):CW φ k z0=z0:=by
  induction k with
  |zero=>rfl
  |succ k ih=>rw[CW,ih,h.f0]
theorem Ext.iw(h:Ext N m p w φ)(k:Nat):CW φ k w=w:=by
  induction k with
  |zero=>rfl
  |succ k ih=>rw[CW,ih,h.fw]
def xm(m:V→V→V)(p:Nat)(w:V)(φ:V→V)(a:Nat)(x:V)(b:Nat)(y:V):Nat×V:=
  if p≤a+b then (a+b-p,m w (m (CW φ b x) y))else (a+b,m (CW φ b x) y)
theorem Ext.assoc(h:Ext N m p w φ){a b c:Nat}{x y z:V}(ha:a<p)(hb:b<p)(hc:c<p)(hx:N x)(hy:N y)(hz:N z):
    xm m p w φ (xm m p w φ a x b y).1 (xm m p w φ a x b y).2 c z=xm m p w φ a x (xm m p w φ b y c z).1 (xm m p w φ b y c z).2:=by
  have g:=h.g;have e1:=h.ic hx;have e2:=h.ic hy;have key:∀q r,q=p+r→m w (CW φ q x)=m (CW φ r x) w:=by
    intro q r hq;rw[hq,Nat.add_comm,KE,h.Mp (e1 r)]
  unfold xm;by_cases h1:p≤a+b<;>by_cases h2:p≤b+c
  · simp only[h1,h2,if_true];have q1:CW φ c (m w (m (CW φ b x) y))=m w (m (CW φ (b+c) x) (CW φ c y)):=by
      rw[h.im h.hw (g.cl (e1 b) hy),h.im (e1 b) hy,h.iw,←KE]
    have q2:m (CW φ (b+c-p) x) (m w (m (CW φ c y) z))=m w (m (CW φ (b+c) x) (m (CW φ c y) z)):=by
      rw[←g.ac (e1 _) h.hw (g.cl (e2 c) hz),←key (b+c) (b+c-p) (by omega),g.ac h.hw (e1 _) (g.cl (e2 c) hz)]
    have q3:m (m w (m (CW φ (b+c) x) (CW φ c y))) z=m w (m (CW φ (b+c) x) (m (CW φ c y) z)):=by
      rw[g.ac h.hw (g.cl (e1 _) (e2 c)) hz,g.ac (e1 _) (e2 c) hz]
    rw[q1,q2,q3];by_cases h3:p≤a+b-p+c
    · rw[if_pos h3,if_pos (by omega)];congr 1;omega
    rw[if_neg h3,if_neg (by omega)];congr 1;omega
  · simp only[h1,h2,if_true,if_false];have q1:CW φ c (m w (m (CW φ b x) y))=m w (m (CW φ (b+c) x) (CW φ c y)):=by
      rw[h.im h.hw (g.cl (e1 b) hy),h.im (e1 b) hy,h.iw,←KE]
    have q3:m (m w (m (CW φ (b+c) x) (CW φ c y))) z=m w (m (CW φ (b+c) x) (m (CW φ c y) z)):=by
      rw[g.ac h.hw (g.cl (e1 _) (e2 c)) hz,g.ac (e1 _) (e2 c) hz]
    rw[q1,q3,if_neg (by omega),if_pos (by omega)];congr 1;omega
  · simp only[h1,h2,if_true,if_false];have q1:CW φ c (m (CW φ b x) y)=m (CW φ (b+c) x) (CW φ c y):=by
      rw[h.im (e1 b) hy,←KE]
    have q2:m (CW φ (b+c-p) x) (m w (m (CW φ c y) z))=m w (m (CW φ (b+c) x) (m (CW φ c y) z)):=by
      rw[←g.ac (e1 _) h.hw (g.cl (e2 c) hz),←key (b+c) (b+c-p) (by omega),g.ac h.hw (e1 _) (g.cl (e2 c) hz)]
    rw[q1,q2,g.ac (e1 _) (e2 c) hz,if_pos (by omega),if_neg (by omega)];congr 1;omega
  simp only[h1,h2,if_true,if_false];have q1:CW φ c (m (CW φ b x) y)=m (CW φ (b+c) x) (CW φ c y):=by
    rw[h.im (e1 b) hy,←KE]
  rw[q1,g.ac (e1 _) (e2 c) hz];by_cases h3:p≤a+b+c
  · rw[if_pos h3,if_pos (by omega)];congr 1;omega
  rw[if_neg h3,if_neg (by omega)];congr 1;omega
end
end Go.Proofs.YtghmeeifjeafmaaGreat
