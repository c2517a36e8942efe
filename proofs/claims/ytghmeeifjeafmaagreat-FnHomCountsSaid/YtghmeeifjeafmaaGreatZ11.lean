import Derived.Test.YtghmeeifjeafmaaGreatZ10
set_option linter.unusedVariables false
set_option linter.unusedSimpArgs false
namespace Go.Proofs.YtghmeeifjeafmaaGreat
inductive Fz (H H':HP):AV→AV→Prop
  |j (a:AV):Fz H H' a .j
  |refl (a:AV):Fz H H' a a
  |nl:Fz H H' .nl (.v 0 [])
  |h (id o n:Nat) (cs ts:List AV) (h1:H id=some cs) (h0:H' id=none) (h2:o+n≤cs.length) (h3:ts.length=n) (h4:∀(k:Nat) (x y:AV),cs[o+k]? =some x→ts[k]? =some y→Fz H H' x y):Fz H H' (.h id o n) (.v n ts)
  |hs (s id o n:Nat) (cs ts:List AV) (h1:H id=some cs) (h0:H' id=none) (h2:o+n*s≤cs.length) (h3:ts.length=n*s) (h4:∀(k:Nat) (x y:AV),cs[o+k]? =some x→ts[k]? =some y→Fz H H' x y):Fz H H' (.hs s id o n) (.v n ts)
  |q (id o:Nat) (cs ts:List AV) (h1:H id=some cs) (h0:H' id=none) (h3:ts.length=cs.length) (h4:∀(k:Nat) (x y:AV),cs[k]? =some x→ts[k]? =some y→Fz H H' x y):Fz H H' (.q id o) (.p o ts)
  |g (cs ts:List AV) (h3:ts.length=cs.length) (h4:∀(k:Nat) (x y:AV),cs[k]? =some x→ts[k]? =some y→Fz H H' x y):Fz H H' (.g cs) (.g ts)
  |t (cs ts:List AV) (h3:ts.length=cs.length) (h4:∀(k:Nat) (x y:AV),cs[k]? =some x→ts[k]? =some y→Fz H H' x y):Fz H H' (.t cs) (.t ts)
  |v (n:Nat) (cs ts:List AV) (h3:ts.length=cs.length) (h4:∀(k:Nat) (x y:AV),cs[k]? =some x→ts[k]? =some y→Fz H H' x y):Fz H H' (.v n cs) (.v n ts)
  |f (n:Nat) (cs ts:List AV) (h3:ts.length=cs.length) (h4:∀(k:Nat) (x y:AV),cs[k]? =some x→ts[k]? =some y→Fz H H' x y):Fz H H' (.f n cs) (.f n ts)
def FzH (H H':HP):Prop:=∀id cs',H' id=some cs'→∃cs,H id=some cs∧cs'.length=cs.length∧∀(k:Nat) (x y:AV),cs[k]? =some x→cs'[k]? =some y→Fz H H' x y
theorem FzH.lb {L:LM} {H H':HP} (h:FzH H H') {b:Nat}:LB L H' b→LB L H b:=by
  rintro⟨id,cs,l,h1,h2,h3⟩
  obtain⟨cs',h4,_⟩:=h id cs h1
  exact⟨id,cs',l,h4,h2,h3⟩
theorem Fz.sound {L:LM} {H H':HP} {Av:Nat→Prop} {w:World} (s:SR L H Av w) (hh:FzH H H') {a t:AV} (v:Fz H H' a t):∀{u:Value},R L w (MM L H Av) a u→R L w (MM L H' Av) t u:=by
  have hM:∀{x:AV} {u:Value},R L w (MM L H Av) x u→R L w (MM L H' Av) x u:=fun h=>h.mono (fun _ _ h=>h) (fun _ _ _=>rfl) (fun _ _ h=>h.imp id hh.lb)
  have hfree:∀(id:Nat) (cs:List AV) (l:Loc),H id=some cs→H' id=none→L id=some l→¬MM L H' Av l.blk:=by
    rintro id cs l h1 h0 hl (hb|⟨id',cs',l',g1,g2,g3⟩)
    · exact s.av id cs l h1 hl hb
    obtain⟨cs'',g4,_⟩:=hh id' cs' g1
    have:=s.inj id' id cs'' cs l' l g4 h1 g2 hl g3
    rw[this,h0]at g1;cases g1
  induction v with
  |j a=>intro u h;exact .j u
  |refl a=>intro u h;exact hM h
  |nl=>intro u h;rw[h.nl_inv];exact .v0 _ _
  | h id o n cs ts h1 h0 h2 h3 h4 ih=>
    intro u h
    obtain⟨l,hl,hnd⟩:=s.node id cs h1
    cases h with
    | h _ _ _ l' ad cp hl' hn hc ha hk0=>
      rw[hl]at hl';cases hl'
      obtain⟨arr,e,e2,e3,e4,e5⟩:=hnd.ex hk0
      by_cases hn0:n=0
      · subst hn0
        have:ts=[]:=List.length_eq_zero_iff.1 h3
        subst this
        exact .v0 _ _
      rw[ha.resolve_left (by omega)]
      have hcell:∀k,k<n→∃u,arr[l.off+o+k]? =some u∧R L w (MM L H Av) (cs.getD (o+k) .j) u:=by
        intro j hj
        have hlt:o+j<cs.length:=by omega
        obtain⟨u,h3,h4⟩:=e5 (o+j) cs[o+j] (List.getElem?_eq_getElem hlt)
        exact⟨u,by rw[Nat.add_assoc];exact h3,by simpa[hlt]using h4⟩
      refine .v n ts l.blk (l.off+o) cp arr e _ (fun k=>arr.getD (l.off+o+k) undef) (hfree id cs l h1 h0 hl) e2 hn ?_ ?_
      · intro k hk
        obtain⟨u,h6,_⟩:=hcell k (by omega)
        rw[h6];simp[h6]
      intro k y hy
      have hk:=(List.getElem?_eq_some_iff.1 hy).1
      obtain⟨u,h6,h7⟩:=hcell k (by omega)
      have hlt:o+k<cs.length:=by omega
      have hx:cs[o+k]? =some (cs.getD (o+k) .j):=by simp[hlt]
      have:=ih k _ y hx hy h7
      rw[show arr.getD (l.off+o+k) undef=u by simp[h6]]
      exact this
  | hs z id o n cs ts h1 h0 h2 h3 h4 ih=>
    intro u h
    obtain⟨l,hl,hnd⟩:=s.node id cs h1
    cases h with
    | hs _ _ _ _ l' ad cp hl' hn hc ha hk0=>
      rw[hl]at hl';cases hl'
      obtain⟨arr,e,e2,e3,e4,e5⟩:=hnd.ex hk0
      by_cases hn0:n=0
      · subst hn0
        have:ts=[]:=List.length_eq_zero_iff.1 (by simpa using h3)
        subst this
        exact .v0 _ _
      rw[ha.resolve_left (by omega)]
      have hcell:∀k,k<n*z→∃u,arr[l.off+o+k]? =some u∧R L w (MM L H Av) (cs.getD (o+k) .j) u:=by
        intro j hj
        have hlt:o+j<cs.length:=by omega
        obtain⟨u,h3,h4⟩:=e5 (o+j) cs[o+j] (List.getElem?_eq_getElem hlt)
        exact⟨u,by rw[Nat.add_assoc];exact h3,by simpa[hlt]using h4⟩
      refine .v n ts l.blk (l.off+o) cp arr e _ (fun k=>arr.getD (l.off+o+k) undef) (hfree id cs l h1 h0 hl) e2 hn ?_ ?_
      · intro k hk
        obtain⟨u,h6,_⟩:=hcell k (by omega)
        rw[h6];simp[h6]
      intro k y hy
      have hk:=(List.getElem?_eq_some_iff.1 hy).1
      obtain⟨u,h6,h7⟩:=hcell k (by omega)
      have hlt:o+k<cs.length:=by omega
      have hx:cs[o+k]? =some (cs.getD (o+k) .j):=by simp[hlt]
      have:=ih k _ y hx hy h7
      rw[show arr.getD (l.off+o+k) undef=u by simp[h6]]
      exact this
  | q id o cs ts h1 h0 h3 h4 ih=>
    intro u h
    obtain⟨l,hl,hnd⟩:=s.node id cs h1
    obtain⟨l',⟨hl',hk0⟩,hu⟩:=h.q_inv
    rw[hl]at hl';cases hl'
    obtain⟨arr,e,e2,e3,e4,e5⟩:=hnd.ex hk0
    rw[hu]
    refine .p o ts l.blk l.off arr e _ (fun k=>arr.getD (l.off+k) undef) (hfree id cs l h1 h0 hl) e2 ?_ ?_
    · intro k hk
      obtain⟨u,h6,_⟩:=e5 k cs[k] (List.getElem?_eq_getElem (by omega))
      rw[h6];simp[h6]
    intro k y hy
    have hk:=(List.getElem?_eq_some_iff.1 hy).1
    obtain⟨u,h6,h7⟩:=e5 k cs[k] (List.getElem?_eq_getElem (by omega))
    have:=ih k _ y (List.getElem?_eq_getElem (by omega)) hy h7
    rw[show arr.getD (l.off+k) undef=u by simp[h6]]
    exact this
  | g cs ts h3 h4 ih=>
    intro u h
    cases h with
    | g _ us hs hr=>
      refine .g ts us (by omega) ?_
      intro k y hy
      have hk:=(List.getElem?_eq_some_iff.1 hy).1
      have hx:cs[k]? =some cs[k]:=List.getElem?_eq_getElem (by omega)
      exact ih k _ y hx hy (hr k _ hx)
  | t cs ts h3 h4 ih=>
    intro u h
    cases h with
    | t _ us hs hr=>
      refine .t ts us (by omega) ?_
      intro k y hy
      have hk:=(List.getElem?_eq_some_iff.1 hy).1
      have hx:cs[k]? =some cs[k]:=List.getElem?_eq_getElem (by omega)
      exact ih k _ y hx hy (hr k _ hx)
  | f n cs ts h3 h4 ih=>
    intro u h
    cases h with
    | f _ _ us hs hr=>
      refine .f n ts us (by omega) ?_
      intro k y hy
      have hk:=(List.getElem?_eq_some_iff.1 hy).1
      have hx:cs[k]? =some cs[k]:=List.getElem?_eq_getElem (by omega)
      exact ih k _ y hx hy (hr k _ hx)
  | v n cs ts h3 h4 ih=>
    intro u h
    cases h with
    | v0 a cp=>
      have:ts=[]:=List.length_eq_zero_iff.1 (by simpa using h3)
      subst this;exact .v0 _ _
    | v _ _ b off cp arr e f us hm hb hn hu hr=>
      refine .v n ts b off cp arr e f us (fun h=>hm (h.imp id hh.lb)) hb hn (fun k hk=>hu k (by omega)) ?_
      intro k y hy
      have hk:=(List.getElem?_eq_some_iff.1 hy).1
      have hx:cs[k]? =some cs[k]:=List.getElem?_eq_getElem (by omega)
      exact ih k _ y hx hy (hr k _ hx)
theorem SR.fz {L:LM} {H H':HP} {Av:Nat→Prop} {w:World} (s:SR L H Av w) (h:FzH H H'):SR L H' Av w:=by
  refine⟨?_,?_,?_,s.avlt⟩
  · intro id cs' hid
    obtain⟨cs,h1,h2,h3⟩:=h id cs' hid
    obtain⟨l,h4,hnd⟩:=s.node id cs h1
    exact⟨l,h4,hnd.trans rfl h2 fun k x y hx hy u h10=>(h3 k x y hx hy).sound s h h10⟩
  · intro i i' c c' l l' h1 h2
    obtain⟨d,g1,_⟩:=h i c h1
    obtain⟨d',g2,_⟩:=h i' c' h2
    exact s.inj i i' d d' l l' g1 g2
  intro i c l h1
  obtain⟨d,g1,_⟩:=h i c h1
  exact s.av i d l g1
def fzs (H H':HP):List AV→List AV→Prop
  |[],[]=>True
  |x::xs,y::ys=>Fz H H' x y∧fzs H H' xs ys
  |_,_=>False
structure WkF (s s':St):Prop where
  sl:fzs s.H s'.H s.t s'.t
  hp:FzH s.H s'.H
  nx:s.nx≤s'.nx
theorem fzs_get {H H':HP}:∀{xs ys:List AV},fzs H H' xs ys→ys.length=xs.length∧∀(k:Nat) (y:AV),ys[k]? =some y→∃x,xs[k]? =some x∧Fz H H' x y:=by
  intro xs
  induction xs with
  |nil=>intro ys h;cases ys with|nil=>exact⟨rfl,by simp⟩|cons=>exact h.elim
  | cons x xs ih=>
    intro ys h
    cases ys with
    |nil=>exact h.elim
    | cons y ys=>
      obtain⟨h1,h2⟩:=ih h.2
      refine⟨by simp[h1],?_⟩
      intro k z hk
      cases k with
      |zero=>simp at hk;subst hk;exact⟨x,rfl,h.1⟩
      |succ k=>exact h2 k z (by simpa using hk)
theorem Cn.fz {cX:Ctx} {s s':St} {L:LM} {a:Act} {w:World} (c:Cn cX s L a w) (h:WkF s s'):Cn cX s' L a w:=by
  obtain⟨h1,h2,h3⟩:=h
  obtain⟨h4,h5⟩:=fzs_get h1
  refine⟨c.df,by rw[c.sz,h4],?_,c.sr.fz h2,fun i hi=>c.fr i (by omega),by have:=c.nx;omega,c.lo,?_⟩
  · intro k y hk
    obtain⟨x,h6,h7⟩:=h5 k y hk
    exact h7.sound c.sr h2 (c.sl k x h6)
  exact⟨c.st.le,c.st.os,c.st.tape,c.st.output,c.st.size,c.st.keep,fun b hb hl=>c.st.old b hb (h2.lb hl)⟩
theorem AW.fz {cX:Ctx} {P:Program} {c:Code} {s s':St} {K:Exit→St→Prop} (h:WkF s s') (hs:AW cX P c s' K):AW cX P c s K:=
  fun L a w Q hc hQ=>hs L a w Q (hc.fz h) hQ
theorem fzs_refl {H H':HP}:∀{xs:List AV},fzs H H' xs xs:=by
  intro xs
  induction xs with
  |nil=>trivial
  |cons x xs ih=>exact⟨.refl _,ih⟩
theorem fzs_set {H H':HP}:∀{xs:List AV} {k:Nat} {x y:AV},xs[k]? =some x→Fz H H' x y→fzs H H' xs (xs.set k y):=by
  intro xs
  induction xs with
  |nil=>intro k x y h;simp at h
  | cons z zs ih=>
    intro k x y h hf
    cases k with
    |zero=>simp at h;subst h;exact⟨hf,fzs_refl⟩
    |succ k=>exact⟨.refl _,ih (by simpa using h) hf⟩
theorem FzH.del {H:HP} {id:Nat}:FzH H (upd H id none):=by
  intro i cs' h
  by_cases e:i=id
  · subst e;rw[upd_same]at h;cases h
  rw[upd_ne _ _ e]at h
  exact⟨cs',h,rfl,fun k x y h1 h2=>by rw[h1]at h2;cases h2;exact .refl _⟩
theorem AW.freeze {cX:Ctx} {P:Program} {c:Code} {s:St} {K:Exit→St→Prop} (k id n:Nat) (cs:List AV) (hk:s.t[k]? =some (.h id 0 n)) (hc:s.H id=some cs) (hn:cs.length=n)
    (hs:AW cX P c ⟨s.t.set k (.v n cs),upd s.H id none,s.nx⟩ K):AW cX P c s K:=
  AW.fz (s':=⟨s.t.set k (.v n cs),upd s.H id none,s.nx⟩) ⟨fzs_set hk (.h id 0 n cs cs hc (upd_same _ _ _) (by omega) hn (fun k x y h1 h2=>by rw[Nat.zero_add,h2]at h1;cases h1;exact .refl _)),FzH.del,Nat.le_refl _⟩ hs
open Nat (reduceAdd reduceSub reduceGT reduceEqDiff reduceMul)
theorem FzH.push {H:HP} {i j n:Nat} {cs ds:List AV} (h1:H i=some (cs++[.h j 0 n])) (h2:H j=some ds) (hn:ds.length=n) (hij:i≠j):FzH H (upd (upd H j none) i (some (cs++[.v n ds]))):=by
  intro k cs' hk
  by_cases e:k=i
  · subst e
    rw[upd_same]at hk;cases hk
    refine⟨_,h1,by simp,fun q x y hx hy=>?_⟩
    rw[List.getElem?_append]at hx hy
    split at hx
    · rename_i hq
      rw[if_pos hq]at hy
      rw[hx]at hy;cases hy;exact .refl _
    rename_i hq
    rw[if_neg hq]at hy
    have hq0:q-cs.length=0:=by have:=(List.getElem?_eq_some_iff.1 hx).1;simp at this;omega
    rw[hq0]at hx hy
    simp at hx hy;subst hx;subst hy
    exact .h j 0 n ds ds h2 (by rw[upd_ne _ _ (Ne.symm hij),upd_same]) (by omega) hn (fun q x y h1 h2=>by rw[Nat.zero_add,h2]at h1;cases h1;exact .refl _)
  rw[upd_ne _ _ e]at hk
  by_cases e2:k=j
  · subst e2;rw[upd_same]at hk;cases hk
  rw[upd_ne _ _ e2]at hk
  exact⟨cs',hk,rfl,fun q x y h1 h2=>by rw[h1]at h2;cases h2;exact .refl _⟩
theorem AW.fzpush {cX:Ctx} {P:Program} {c:Code} {s:St} {K:Exit→St→Prop} (i j n:Nat) (cs ds:List AV) (h1:s.H i=some (cs++[.h j 0 n])) (h2:s.H j=some ds) (hn:ds.length=n) (hij:i≠j)
    (hs:AW cX P c ⟨s.t,upd (upd s.H j none) i (some (cs++[.v n ds])),s.nx⟩ K):AW cX P c s K:=
  AW.fz (s':=⟨s.t,upd (upd s.H j none) i (some (cs++[.v n ds])),s.nx⟩) ⟨fzs_refl,FzH.push h1 h2 hn hij,Nat.le_refl _⟩ hs
theorem ACp.introV {P:Program} {Γ:TEnv} (hG:GOk P Γ) {f:FuncId} {fn:Func} {c:Code} {n:Nat} {rs:Array ResultVar} (hf:P.funcs[f]? =some fn) (hb:fn.body=some c) (hn:(fn.name== "runtime.NumGoroutine")=false) (hnt:fn.ntmps=n) (hres:fn.results=rs) {xs:List AV} {r:AV} (hr:NR r)
    (h:∀nx (cX:Ctx),AW cX P c ⟨xs++List.replicate (n-xs.length) .j,noH,nx⟩ (finK Γ rs.toList fun _ H' r'=>Vw H' r' r)):ACp P f xs r:=by
  refine⟨⟨fn,hf,by rw[hb];rfl,hn⟩,?_⟩
  rintro L M w us hM ⟨nx,hfr⟩ ha
  refine((AC.intro' hG hf hb hn hnt hres (h nx)).2 L M w us (SR_noH hM) hfr (by rw[MM_noH];exact ha)).mono ?_
  rintro e w' ⟨u,r',L',nx',H',g1,g0,g2,g3,g4,g5,g6,g7⟩
  refine⟨u,g1,⟨fun _ _ h=>h,g6.os,g6.tape,g6.output,g6.size,g6.keep,fun b _ hb=>absurd hb LB_noH⟩,(g0.sound g5 g7).nr hr⟩
theorem rows_nr (a:List (List Int)):NR (rows a):= .v _ _ (fun k y hk=>by
  obtain⟨z,_,rfl⟩:=List.mem_map.1 (List.mem_of_getElem? hk);exact ints_nr z)
theorem ints_take_map (u:List (List Int)) (k:Nat):List.take k (u.map ints)=(u.take k).map ints:=by rw[List.map_take]
theorem one_rt (u:List (List Int)) (k:Nat):(∀z∈List.take k (u.map ints),one z=true)=True:=by rw[ints_take_map];exact one_r
theorem one_rd (u:List (List Int)) (k n:Nat):(∀z∈List.take n (List.drop k (u.map ints)),one z=true)=True:=by
  refine eq_true (fun z hz=>?_)
  obtain⟨y,_,rfl⟩:=List.mem_map.1 (List.mem_of_mem_drop (List.mem_of_mem_take hz));rfl
theorem one_is (x:List Int):(∀z∈ [ints x],one z=true)=True:=by
  refine eq_true (fun z hz=>?_)
  rw[List.mem_singleton.1 hz];rfl
theorem take_tm {u:List AV} {k:Nat}:List.take k (List.take k u)=List.take k u:=by rw[List.take_take,Nat.min_self]
theorem one_v1 (n:Nat) (cs:List AV):(∀z∈ [AV.v n cs],one z=true)=True:=by
  refine eq_true (fun z hz=>?_)
  rw[List.mem_singleton.1 hz];rfl
theorem take_mt {α:Type} {f:α→AV} {u:List α} {k:Nat}:List.take k (List.map f (List.take k u))=List.map f (List.take k u):=by rw[←List.map_take,List.take_take,Nat.min_self]
attribute [go_sem] one_v1 take_mt one_is one_rt one_rd take_tm List.length_drop
theorem Le.del {H:HP} {j:Nat} (h:H j=none):Le H (upd H j none):=by
  intro i c hi
  by_cases e:i=j
  · subst e;rw[h]at hi;cases hi
  rw[upd_ne _ _ e];exact hi
theorem Vw.fr {H:HP} {id n:Nat} {xs:List AV} (h:H id=some xs) (hn:xs.length=n):Vw H (.h id 0 n) (.v n xs):=
  .h id 0 n _ _ h (by omega) hn (fun k x y hx hy=>by rw[Nat.zero_add,hy]at hx;cases hx;exact .refl _)
def oA:Option Nat→Nat→AV
  |none,_=> .nl
  |some id,k=> .h id 0 k
def oH (H:HP):Option Nat→List AV→HP
  |none,_=>H
  |some id,cs=>upd H id (some cs)
theorem one_ii (k:IntKind) (n:Int):(∀z∈ [AV.i k n],one z=true)=True:=by
  refine eq_true (fun z hz=>?_)
  rw[List.mem_singleton.1 hz];rfl
attribute [go_sem] one_ii
def lim (m:Nat) (H:HP):HP:=fun i=>if i<m then H i else none
theorem AW.freezeQ {cX:Ctx} {P:Program} {c:Code} {s:St} {K:Exit→St→Prop} (k id:Nat) (cs:List AV) (hk:s.t[k]? =some (.q id 0)) (hc:s.H id=some cs)
    (hs:AW cX P c ⟨s.t.set k (.p 0 cs),upd s.H id none,s.nx⟩ K):AW cX P c s K:=
  AW.fz (s':=⟨s.t.set k (.p 0 cs),upd s.H id none,s.nx⟩) ⟨fzs_set hk (.q id 0 cs cs hc (upd_same _ _ _) rfl (fun k x y h1 h2=>by rw[h2]at h1;cases h1;exact .refl _)),FzH.del,Nat.le_refl _⟩ hs
theorem tk_map {α β:Type} {f:α→β} {xs:List α}:(xs.map f).take xs.length=xs.map f:=List.take_of_length_le (by rw[List.length_map];exact Nat.le_refl _)
theorem AC.fz {P:Program} {f:FuncId} {nx:Nat} {H H':HP} {xs ts:List AV} {Q:Nat→HP→AV→Prop} (hh:FzH H H') (ha:fzs H H' xs ts) (h:AC P f nx H' ts Q):AC P f nx H xs Q:=by
  refine⟨h.1,fun L Av w us hs hfr hargs=>(h.2 L Av w us (hs.fz hh) hfr ?_).mono ?_⟩
  · obtain⟨h4,h5⟩:=fzs_get ha
    refine⟨by rw[hargs.1,h4],fun k y hk=>?_⟩
    obtain⟨x,h6,h7⟩:=h5 k y hk
    exact h7.sound hs hh (hargs.2 k x h6)
  rintro e w' ⟨u,r,L',nx',H2,h1,h2,h3,h4,h5,h6,h7,h8⟩
  exact⟨u,r,L',nx',H2,h1,h2,h3,h4,h5,h6,⟨h7.le,h7.os,h7.tape,h7.output,h7.size,fun b hb hn=>h7.keep b hb (fun hl=>hn (hh.lb hl)),fun b hb hl=>hh.lb (h7.old b hb hl)⟩,h8⟩
def oN (H:HP):Option Nat→HP
  |none=>H
  |some id=>upd H id none
structure OutB (nx m:Nat) (o:Option Nat) (rs:List AV) (H:HP) (W:List (List Int)):Prop where
  ex:∃ids,OwL H rs (W.map ints) ids∧ids.Nodup∧(∀i∈ids,nx≤i∧i<m)∧(∀id,o=some id→id∉ids∧nx≤id∧id<m)
  no:o=none→rs=[]
  dom:∀i,m≤i→H i=none
theorem OutB.start {nx m:Nat}:OutB nx m none [] noH []:=⟨⟨[],.nil,by simp,by simp,by simp⟩,fun _=>rfl,fun _ _=>rfl⟩
theorem OutB.len {nx m:Nat} {o:Option Nat} {rs:List AV} {H:HP} {W:List (List Int)} (h:OutB nx m o rs H W):rs.length=W.length:=by
  obtain⟨ids,h1,_⟩:=h.ex
  have:=h1.len
  simpa using this.symm
theorem OutB.more {nx m m':Nat} {o:Option Nat} {rs:List AV} {H:HP} {W:List (List Int)} (h:OutB nx m o rs H W) (hm:m≤m'):OutB nx m' o rs H W:=by
  obtain⟨ids,h1,h2,h4,h5⟩:=h.ex
  exact⟨⟨ids,h1,h2,fun i hi=>⟨(h4 i hi).1,by have:=(h4 i hi).2;omega⟩,fun id hid=>⟨(h5 id hid).1,(h5 id hid).2.1,by have:=(h5 id hid).2.2;omega⟩⟩,h.no,fun i hi=>h.dom i (by omega)⟩
theorem OutB.own {nx m id:Nat} {rs:List AV} {H:HP} {W:List (List Int)} (h:OutB nx m (some id) rs H W):∃ids,Own nx m (upd H id (some rs)) (.h id 0 rs.length) (rows W) ids:=by
  have hl:=h.len
  obtain⟨ids,h1,h2,h4,h5⟩:=h.ex
  obtain⟨q1,q3,q4⟩:=h5 id rfl
  refine⟨id::ids,?_,by simp[q1,h2],?_⟩
  · have:=Ow.h (H:=upd H id (some rs)) id rs (W.map ints) ids (upd_same _ _ _) (h1.keep fun i hi=>by
      rw[upd_ne _ _ (fun e=>q1 (by rw[←e];exact hi))])
    rw[hl]at this ⊢
    exact this
  intro i hi
  rcases List.mem_cons.1 hi with rfl|hi
  · exact⟨q3,q4⟩
  exact h4 i hi
theorem OutB.nil {nx m a b:Nat} {rs:List AV} {H H':HP} {W:List (List Int)} (h:OutB nx m none rs H W):Own a b H' .nl (rows W) []:=by
  have h1:=h.no rfl
  have h2:=h.len
  rw[h1]at h2
  have h3:W=[]:=List.length_eq_zero_iff.1 h2.symm
  subst h3
  exact⟨.nl,by simp,by simp⟩
theorem OutB.id {nx m id:Nat} {o:Option Nat} {rs:List AV} {H:HP} {W:List (List Int)} (h:OutB nx m o rs H W) (ho:o=some id):nx≤id∧id<m:=by
  obtain⟨ids,_,_,_,h5⟩:=h.ex
  exact(h5 id ho).2
theorem AC.frame {P:Program} {f:FuncId} {nx:Nat} {H:HP} {xs:List AV} {Q:Nat→HP→AV→Prop} (h:AC P f nx noH xs Q):AC P f nx H xs fun nx' H' r=>∃H0,Q nx' H0 r∧(∀i,i<nx→H' i=H i)∧∀i,nx≤i→H' i=H0 i:=by
  refine⟨h.1,fun L Av w us hs hfr ha=>(h.2 L (MM L H Av) w us (SR_noH (MM_lt hs)) hfr (by rw[MM_noH];exact ha)).mono ?_⟩
  rintro e w' ⟨u,r,L',nx',H0,h1,h2,h3,h4,h5,h6,h7,h8⟩
  let H2:HP:=fun i=>if i<nx then H i else H0 i
  have hlow:∀i,i<nx→H2 i=H i:=fun i hi=>by simp only[H2,hi,if_true]
  have hhigh:∀i,nx≤i→H2 i=H0 i:=fun i hi=>by simp only[H2];rw[if_neg (by omega)]
  have hk':∀b,b<w.heap.size→w'.heap[b]? =w.heap[b]? :=fun b hb=>h7.keep b hb LB_noH
  have hHn:∀i cs,H i=some cs→i<nx:=fun i cs hi=>by
    apply Classical.byContradiction;intro hn
    obtain⟨l,g1,_⟩:=hs.node i cs hi
    rw[hfr i (by omega)]at g1;cases g1
  have live:∀i cs,H2 i=some cs→(i<nx∧H i=some cs)∨(nx≤i∧H0 i=some cs):=by
    intro i cs hi
    rcases Nat.lt_or_ge i nx with h|h
    · rw[hlow i h]at hi;exact .inl ⟨h,hi⟩
    rw[hhigh i h]at hi;exact .inr ⟨h,hi⟩
  have newblk:∀i cs l,H0 i=some cs→L' i=some l→w.heap.size≤l.blk:=by
    intro i cs l g1 g2
    apply Classical.byContradiction
    intro hlt
    exact LB_noH (h7.old l.blk (by omega) ⟨i,cs,l,g1,g2,rfl⟩)
  have hlb:∀b,LB L' H2 b→LB L H b∨LB L' H0 b:=by
    rintro b ⟨i,cs,l,g1,g2,g3⟩
    rcases live i cs g1 with ⟨q1,q2⟩|⟨q1,q2⟩
    · exact .inl ⟨i,cs,l,q2,by rw[←h5 i q1];exact g2,g3⟩
    exact .inr ⟨i,cs,l,q2,g2,g3⟩
  have hMM:∀b,MM L' H2 Av b→MM L' H0 (MM L H Av) b:=by
    rintro b (hb|hb)
    · exact .inl (.inl hb)
    exact(hlb b hb).elim (fun h=> .inl (.inr h)) .inr
  have hst:Step L H w L' H2 w':=by
    refine⟨h7.le,h7.os,h7.tape,h7.output,h7.size,fun b hb _=>hk' b hb,?_⟩
    rintro b hb hl
    rcases hlb b hl with g|⟨i,cs,l,g1,g2,g3⟩
    · exact g
    have:=newblk i cs l g1 g2;omega
  refine⟨u,r,L',nx',H2,h1,⟨H0,h2,hlow,hhigh⟩,h3,h4,h5,⟨?_,?_,?_,fun b hb=>Nat.lt_of_lt_of_le (hs.avlt b hb) h7.size⟩,hst,h8.mono (fun _ _ h=>h) (fun _ _ _=>rfl) (fun b _ hb=>hMM b hb)⟩
  · intro i cs hi
    rcases live i cs hi with ⟨g4,g5⟩|⟨g4,g5⟩
    · obtain⟨l,g7,hnd⟩:=hs.node i cs g5
      exact⟨l,by rw[h5 i g4];exact g7,hnd.mono (hk' _ hnd.lt) fun k x hk c g13=>g13.step hst⟩
    obtain⟨l,g7,hnd⟩:=h6.node i cs g5
    exact⟨l,g7,hnd.mono rfl fun k x hk c g13=>g13.mono (fun _ _ h=>h) (fun _ _ _=>rfl) (fun b _ hb=>hMM b hb)⟩
  · intro i i' cs cs' l l' g1 g2 g3 g4 g5
    rcases live i cs g1 with ⟨q1,q2⟩|⟨q1,q2⟩<;>rcases live i' cs' g2 with ⟨q4,q5⟩|⟨q4,q5⟩
    · exact hs.inj i i' cs cs' l l' q2 q5 (by rw[←h5 i q1];exact g3) (by rw[←h5 i' q4];exact g4) g5
    · have a1:=LB_lt hs ⟨i,cs,l,q2,by rw[←h5 i q1];exact g3,rfl⟩
      have a2:=newblk i' cs' l' q5 g4
      omega
    · have a1:=LB_lt hs ⟨i',cs',l',q5,by rw[←h5 i' q4];exact g4,rfl⟩
      have a2:=newblk i cs l q2 g3
      omega
    exact h6.inj i i' cs cs' l l' q2 q5 g3 g4 g5
  intro i cs l g1 g2
  rcases live i cs g1 with ⟨q1,q2⟩|⟨q1,q2⟩
  · exact hs.av i cs l q2 (by rw[←h5 i q1];exact g2)
  exact fun hv=>h6.av i cs l q2 g2 (.inl hv)
theorem Vw.blk {H:HP} {id n:Nat} {cs:List AV} (hc:H id=some cs) (hn:n=cs.length):Vw H (.h id 0 n) (.v n cs):=by
  subst hn
  exact .h id 0 cs.length cs cs hc (by omega) rfl (fun k x y hx hy=>by rw[Nat.zero_add,hy]at hx;cases hx;exact .refl _)
theorem Vw.t2 {H:HP} {a X:AV} {k:IntKind} {e:Int} (h:Vw H a X):Vw H (.t [a,.i k e]) (.t [X,.i k e]):=by
  refine .t _ _ rfl (fun k x y hx hy=>?_)
  match k,hx,hy with
  |0,hx,hy=>cases hx;cases hy;exact h
  |1,hx,hy=>cases hx;cases hy;exact .refl _
theorem Vws.rfl {H:HP}:∀{cs:List AV},Vws H cs cs:=by
  intro cs
  induction cs with
  |nil=>exact .nil
  |cons c cs ih=>exact .cons (.refl _) ih
theorem cubes_nr (a:List (List (List Int))):NR (cubes a):= .v _ _ (fun k y hk=>by
  simp only[List.getElem?_map,Option.map_eq_some_iff]at hk
  obtain⟨z,_,rfl⟩:=hk
  exact rows_nr z)
theorem one_list {r:AV} (h:one r=true):(∀z∈ [r],one z=true)=True:=eq_true (fun z hz=>by rw[List.mem_singleton.1 hz];exact h)
theorem AW.nameH {cX:Ctx} {P:Program} {c:Code} {s:St} {K:Exit→St→Prop} (h:∀G,s.H=G→AW cX P c ⟨s.t,G,s.nx⟩ K):AW cX P c s K:=h _ rfl
end Go.Proofs.YtghmeeifjeafmaaGreat
