import Derived.Test.YtlcddiojeghfgaaGreatDoorZ12
set_option linter.unusedVariables false
set_option linter.unusedSimpArgs false
namespace Go.Proofs.YtlcddiojeghfgaaGreatDoor
inductive Fz (H H':HP):AV→AV→Prop
  |j (a:AV):Fz H H' a .j
  |refl (a:AV):Fz H H' a a
  |nl:Fz H H' .nl (.v 0 [])
  |h (id o n:Nat) (cs ts:List AV) (h1:H id=some cs) (h0:H' id=none) (h2:o+n≤cs.length) (h3:ts.length=n) (h4:∀(k:Nat) (x y:AV),cs[o+k]? =some x→ts[k]? =some y→Fz H H' x y):Fz H H' (.h id o n) (.v n ts)
  |hs (s id o n:Nat) (cs ts:List AV) (h1:H id=some cs) (h0:H' id=none) (h2:o+n*s≤cs.length) (h3:ts.length=n*s) (h4:∀(k:Nat) (x y:AV),cs[o+k]? =some x→ts[k]? =some y→Fz H H' x y):Fz H H' (.hs s id o n) (.v n ts)
  |q (id o:Nat) (cs ts:List AV) (h1:H id=some cs) (h0:H' id=none) (h3:ts.length=cs.length) (h4:∀(k:Nat) (x y:AV),cs[k]? =some x→ts[k]? =some y→Fz H H' x y):Fz H H' (.q id o) (.p o ts)
  |g (cs ts:List AV) (h3:ts.length=cs.length) (h4:∀(k:Nat) (x y:AV),cs[k]? =some x→ts[k]? =some y→Fz H H' x y):Fz H H' (.g cs) (.g ts)
  |t (cs ts:List AV) (h3:ts.length=cs.length) (h4:∀(k:Nat) (x y:AV),cs[k]? =some x→ts[k]? =some y→Fz H H' x y):Fz H H' (.t cs) (.t ts)
  |v (n:Nat) (cs ts:List AV) (h3:ts.length=cs.length) (h4:∀(k:Nat) (x y:AV),cs[k]? =some x→ts[k]? =some y→Fz H H' x y):Fz H H' (.v n cs) (.v n ts)
  |f (n:Nat) (cs ts:List AV) (h3:ts.length=cs.length) (h4:∀(k:Nat) (x y:AV),cs[k]? =some x→ts[k]? =some y→Fz H H' x y):Fz H H' (.f n cs) (.f n ts)
def FzH (H H':HP):Prop:=∀id cs',H' id=some cs'→∃cs,H id=some cs∧cs'.length=cs.length∧∀(k:Nat) (x y:AV),cs[k]? =some x→cs'[k]? =some y→Fz H H' x y
theorem FzH.lb {L:LM} {H H':HP} (h:FzH H H') {b:Nat}:LB L H' b→LB L H b:=by
  rintro⟨id,cs,l,h1,h2,h3⟩
  obtain⟨cs',h4,_⟩:=h id cs h1
  exact⟨id,cs',l,h4,h2,h3⟩
theorem Fz.sound {L:LM} {H H':HP} {Av:Nat→Prop} {w:World} (s:SR L H Av w) (hh:FzH H H') {a t:AV} (v:Fz H H' a t):∀{u:Value},R L w (MM L H Av) a u→R L w (MM L H' Av) t u:=by
  have hM:∀{x:AV} {u:Value},R L w (MM L H Av) x u→R L w (MM L H' Av) x u:=fun h=>h.mono (fun _ _ h=>h) (fun _ _ _=>rfl) (fun _ _ h=>h.imp id hh.lb)
  have hfree:∀(id:Nat) (cs:List AV) (l:Loc),H id=some cs→H' id=none→L id=some l→¬MM L H' Av l.blk:=by
    rintro id cs l h1 h0 hl (hb|⟨id',cs',l',g1,g2,g3⟩)
    · exact s.av id cs l h1 hl hb
    · obtain⟨cs'',g4,_⟩:=hh id' cs' g1
      have:=s.inj id' id cs'' cs l' l g4 h1 g2 hl g3
      rw[this,h0]at g1;cases g1
  induction v with
  |j a=>intro u h;exact .j u
  |refl a=>intro u h;exact hM h
  |nl=>intro u h;rw[h.nl_inv];exact .v0 _ _
  | h id o n cs ts h1 h0 h2 h3 h4 ih=>
    intro u h
    obtain⟨l,hl,hnd⟩:=s.node id cs h1
    cases h with
    | h _ _ _ l' ad cp hl' hn hc ha hk0=>
      rw[hl]at hl';cases hl'
      obtain⟨arr,e,e2,e3,e4,e5⟩:=hnd.ex hk0
      by_cases hn0:n=0
      · subst hn0
        have:ts=[]:=List.length_eq_zero_iff.1 h3
        subst this
        exact .v0 _ _
      · rw[ha.resolve_left (by omega)]
        have hcell:∀k,k<n→∃u,arr[l.off+o+k]? =some u∧R L w (MM L H Av) (cs.getD (o+k) .j) u:=by
          intro j hj
          have hlt:o+j<cs.length:=by omega
          obtain⟨u,h3,h4⟩:=e5 (o+j) cs[o+j] (List.getElem?_eq_getElem hlt)
          exact⟨u,by rw[Nat.add_assoc];exact h3,by simpa[hlt]using h4⟩
        refine .v n ts l.blk (l.off+o) cp arr e _ (fun k=>arr.getD (l.off+o+k) undef) (hfree id cs l h1 h0 hl) e2 hn ?_ ?_
        · intro k hk
          obtain⟨u,h6,_⟩:=hcell k (by omega)
          rw[h6];simp[h6]
        · intro k y hy
          have hk:=(List.getElem?_eq_some_iff.1 hy).1
          obtain⟨u,h6,h7⟩:=hcell k (by omega)
          have hlt:o+k<cs.length:=by omega
          have hx:cs[o+k]? =some (cs.getD (o+k) .j):=by simp[hlt]
          have:=ih k _ y hx hy h7
          rw[show arr.getD (l.off+o+k) undef=u by simp[h6]]
          exact this
  | hs z id o n cs ts h1 h0 h2 h3 h4 ih=>
    intro u h
    obtain⟨l,hl,hnd⟩:=s.node id cs h1
    cases h with
    | hs _ _ _ _ l' ad cp hl' hn hc ha hk0=>
      rw[hl]at hl';cases hl'
      obtain⟨arr,e,e2,e3,e4,e5⟩:=hnd.ex hk0
      by_cases hn0:n=0
      · subst hn0
        have:ts=[]:=List.length_eq_zero_iff.1 (by simpa using h3)
        subst this
        exact .v0 _ _
      · rw[ha.resolve_left (by omega)]
        have hcell:∀k,k<n*z→∃u,arr[l.off+o+k]? =some u∧R L w (MM L H Av) (cs.getD (o+k) .j) u:=by
          intro j hj
          have hlt:o+j<cs.length:=by omega
          obtain⟨u,h3,h4⟩:=e5 (o+j) cs[o+j] (List.getElem?_eq_getElem hlt)
          exact⟨u,by rw[Nat.add_assoc];exact h3,by simpa[hlt]using h4⟩
        refine .v n ts l.blk (l.off+o) cp arr e _ (fun k=>arr.getD (l.off+o+k) undef) (hfree id cs l h1 h0 hl) e2 hn ?_ ?_
        · intro k hk
          obtain⟨u,h6,_⟩:=hcell k (by omega)
          rw[h6];simp[h6]
        · intro k y hy
          have hk:=(List.getElem?_eq_some_iff.1 hy).1
          obtain⟨u,h6,h7⟩:=hcell k (by omega)
          have hlt:o+k<cs.length:=by omega
          have hx:cs[o+k]? =some (cs.getD (o+k) .j):=by simp[hlt]
          have:=ih k _ y hx hy h7
          rw[show arr.getD (l.off+o+k) undef=u by simp[h6]]
          exact this
  | q id o cs ts h1 h0 h3 h4 ih=>
    intro u h
    obtain⟨l,hl,hnd⟩:=s.node id cs h1
    obtain⟨l',⟨hl',hk0⟩,hu⟩:=h.q_inv
    rw[hl]at hl';cases hl'
    obtain⟨arr,e,e2,e3,e4,e5⟩:=hnd.ex hk0
    rw[hu]
    refine .p o ts l.blk l.off arr e _ (fun k=>arr.getD (l.off+k) undef) (hfree id cs l h1 h0 hl) e2 ?_ ?_
    · intro k hk
      obtain⟨u,h6,_⟩:=e5 k cs[k] (List.getElem?_eq_getElem (by omega))
      rw[h6];simp[h6]
    · intro k y hy
      have hk:=(List.getElem?_eq_some_iff.1 hy).1
      obtain⟨u,h6,h7⟩:=e5 k cs[k] (List.getElem?_eq_getElem (by omega))
      have:=ih k _ y (List.getElem?_eq_getElem (by omega)) hy h7
      rw[show arr.getD (l.off+k) undef=u by simp[h6]]
      exact this
  | g cs ts h3 h4 ih=>
    intro u h
    cases h with
    | g _ us hs hr=>
      refine .g ts us (by omega) ?_
      intro k y hy
      have hk:=(List.getElem?_eq_some_iff.1 hy).1
      have hx:cs[k]? =some cs[k]:=List.getElem?_eq_getElem (by omega)
      exact ih k _ y hx hy (hr k _ hx)
  | t cs ts h3 h4 ih=>
    intro u h
    cases h with
    | t _ us hs hr=>
      refine .t ts us (by omega) ?_
      intro k y hy
      have hk:=(List.getElem?_eq_some_iff.1 hy).1
      have hx:cs[k]? =some cs[k]:=List.getElem?_eq_getElem (by omega)
      exact ih k _ y hx hy (hr k _ hx)
  | f n cs ts h3 h4 ih=>
    intro u h
    cases h with
    | f _ _ us hs hr=>
      refine .f n ts us (by omega) ?_
      intro k y hy
      have hk:=(List.getElem?_eq_some_iff.1 hy).1
      have hx:cs[k]? =some cs[k]:=List.getElem?_eq_getElem (by omega)
      exact ih k _ y hx hy (hr k _ hx)
  | v n cs ts h3 h4 ih=>
    intro u h
    cases h with
    | v0 a cp=>
      have:ts=[]:=List.length_eq_zero_iff.1 (by simpa using h3)
      subst this;exact .v0 _ _
    | v _ _ b off cp arr e f us hm hb hn hu hr=>
      refine .v n ts b off cp arr e f us (fun h=>hm (h.imp id hh.lb)) hb hn (fun k hk=>hu k (by omega)) ?_
      intro k y hy
      have hk:=(List.getElem?_eq_some_iff.1 hy).1
      have hx:cs[k]? =some cs[k]:=List.getElem?_eq_getElem (by omega)
      exact ih k _ y hx hy (hr k _ hx)
theorem SR.fz {L:LM} {H H':HP} {Av:Nat→Prop} {w:World} (s:SR L H Av w) (h:FzH H H'):SR L H' Av w:=by
  refine⟨?_,?_,?_,s.avlt⟩
  · intro id cs' hid
    obtain⟨cs,h1,h2,h3⟩:=h id cs' hid
    obtain⟨l,h4,hnd⟩:=s.node id cs h1
    exact⟨l,h4,hnd.trans rfl h2 fun k x y hx hy u h10=>(h3 k x y hx hy).sound s h h10⟩
  · intro i i' c c' l l' h1 h2
    obtain⟨d,g1,_⟩:=h i c h1
    obtain⟨d',g2,_⟩:=h i' c' h2
    exact s.inj i i' d d' l l' g1 g2
  · intro i c l h1
    obtain⟨d,g1,_⟩:=h i c h1
    exact s.av i d l g1
def fzs (H H':HP):List AV→List AV→Prop
  |[],[]=>True
  |x::xs,y::ys=>Fz H H' x y∧fzs H H' xs ys
  |_,_=>False
structure WkF (s s':St):Prop where
  sl:fzs s.H s'.H s.t s'.t
  hp:FzH s.H s'.H
  nx:s.nx≤s'.nx
theorem fzs_get {H H':HP}:∀{xs ys:List AV},fzs H H' xs ys→ys.length=xs.length∧∀(k:Nat) (y:AV),ys[k]? =some y→∃x,xs[k]? =some x∧Fz H H' x y:=by
  intro xs
  induction xs with
  |nil=>intro ys h;cases ys with|nil=>exact⟨rfl,by simp⟩|cons=>exact h.elim
  | cons x xs ih=>
    intro ys h
    cases ys with
    |nil=>exact h.elim
    | cons y ys=>
      obtain⟨h1,h2⟩:=ih h.2
      refine⟨by simp[h1],?_⟩
      intro k z hk
      cases k with
      |zero=>simp at hk;subst hk;exact⟨x,rfl,h.1⟩
      |succ k=>exact h2 k z (by simpa using hk)
theorem Cn.fz {cX:Ctx} {s s':St} {L:LM} {a:Act} {w:World} (c:Cn cX s L a w) (h:WkF s s'):Cn cX s' L a w:=by
  obtain⟨h1,h2,h3⟩:=h
  obtain⟨h4,h5⟩:=fzs_get h1
  refine⟨c.df,by rw[c.sz,h4],?_,c.sr.fz h2,fun i hi=>c.fr i (by omega),by have:=c.nx;omega,c.lo,?_⟩
  · intro k y hk
    obtain⟨x,h6,h7⟩:=h5 k y hk
    exact h7.sound c.sr h2 (c.sl k x h6)
  · exact⟨c.st.le,c.st.os,c.st.tape,c.st.output,c.st.size,c.st.keep,fun b hb hl=>c.st.old b hb (h2.lb hl)⟩
theorem AW.fz {cX:Ctx} {P:Program} {c:Code} {s s':St} {K:Exit→St→Prop} (h:WkF s s') (hs:AW cX P c s' K):AW cX P c s K:=
  fun L a w Q hc hQ=>hs L a w Q (hc.fz h) hQ
theorem fzs_refl {H H':HP}:∀{xs:List AV},fzs H H' xs xs:=by
  intro xs
  induction xs with
  |nil=>trivial
  |cons x xs ih=>exact⟨.refl _,ih⟩
theorem fzs_set {H H':HP}:∀{xs:List AV} {k:Nat} {x y:AV},xs[k]? =some x→Fz H H' x y→fzs H H' xs (xs.set k y):=by
  intro xs
  induction xs with
  |nil=>intro k x y h;simp at h
  | cons z zs ih=>
    intro k x y h hf
    cases k with
    |zero=>simp at h;subst h;exact⟨hf,fzs_refl⟩
    |succ k=>exact⟨.refl _,ih (by simpa using h) hf⟩
theorem FzH.del {H:HP} {id:Nat}:FzH H (upd H id none):=by
  intro i cs' h
  by_cases e:i=id
  · subst e;rw[upd_same]at h;cases h
  · rw[upd_ne _ _ e]at h
    exact⟨cs',h,rfl,fun k x y h1 h2=>by rw[h1]at h2;cases h2;exact .refl _⟩
theorem AW.freeze {cX:Ctx} {P:Program} {c:Code} {s:St} {K:Exit→St→Prop} (k id n:Nat) (cs:List AV) (hk:s.t[k]? =some (.h id 0 n)) (hc:s.H id=some cs) (hn:cs.length=n)
    (hs:AW cX P c ⟨s.t.set k (.v n cs),upd s.H id none,s.nx⟩ K):AW cX P c s K:=
  AW.fz (s':=⟨s.t.set k (.v n cs),upd s.H id none,s.nx⟩) ⟨fzs_set hk (.h id 0 n cs cs hc (upd_same _ _ _) (by omega) hn (fun k x y h1 h2=>by rw[Nat.zero_add,h2]at h1;cases h1;exact .refl _)),FzH.del,Nat.le_refl _⟩ hs
open Nat (reduceAdd reduceSub reduceGT reduceEqDiff reduceMul)
theorem FzH.push {H:HP} {i j n:Nat} {cs ds:List AV} (h1:H i=some (cs++[.h j 0 n])) (h2:H j=some ds) (hn:ds.length=n) (hij:i≠j):FzH H (upd (upd H j none) i (some (cs++[.v n ds]))):=by
  intro k cs' hk
  by_cases e:k=i
  · subst e
    rw[upd_same]at hk;cases hk
    refine⟨_,h1,by simp,fun q x y hx hy=> ?_⟩
    rw[List.getElem?_append]at hx hy
    split at hx
    · rename_i hq
      rw[if_pos hq]at hy
      rw[hx]at hy;cases hy;exact .refl _
    · rename_i hq
      rw[if_neg hq]at hy
      have hq0:q-cs.length=0:=by have:=(List.getElem?_eq_some_iff.1 hx).1;simp at this;omega
      rw[hq0]at hx hy
      simp at hx hy;subst hx;subst hy
      exact .h j 0 n ds ds h2 (by rw[upd_ne _ _ (Ne.symm hij),upd_same]) (by omega) hn (fun q x y h1 h2=>by rw[Nat.zero_add,h2]at h1;cases h1;exact .refl _)
  · rw[upd_ne _ _ e]at hk
    by_cases e2:k=j
    · subst e2;rw[upd_same]at hk;cases hk
    · rw[upd_ne _ _ e2]at hk
      exact⟨cs',hk,rfl,fun q x y h1 h2=>by rw[h1]at h2;cases h2;exact .refl _⟩
theorem AW.fzpush {cX:Ctx} {P:Program} {c:Code} {s:St} {K:Exit→St→Prop} (i j n:Nat) (cs ds:List AV) (h1:s.H i=some (cs++[.h j 0 n])) (h2:s.H j=some ds) (hn:ds.length=n) (hij:i≠j)
    (hs:AW cX P c ⟨s.t,upd (upd s.H j none) i (some (cs++[.v n ds])),s.nx⟩ K):AW cX P c s K:=
  AW.fz (s':=⟨s.t,upd (upd s.H j none) i (some (cs++[.v n ds])),s.nx⟩) ⟨fzs_refl,FzH.push h1 h2 hn hij,Nat.le_refl _⟩ hs
theorem ACp.introV {P:Program} {Γ:TEnv} (hG:GOk P Γ) {f:FuncId} {fn:Func} {c:Code} {n:Nat} {rs:Array ResultVar} (hf:P.funcs[f]? =some fn) (hb:fn.body=some c) (hn:(fn.name== "runtime.NumGoroutine")=false) (hnt:fn.ntmps=n) (hres:fn.results=rs) {xs:List AV} {r:AV} (hr:NR r)
    (h:∀nx (cX:Ctx),AW cX P c ⟨xs++List.replicate (n-xs.length) .j,noH,nx⟩ (finK Γ rs.toList fun _ H' r'=>Vw H' r' r)):ACp P f xs r:=by
  refine⟨⟨fn,hf,by rw[hb];rfl,hn⟩,?_⟩
  rintro L M w us hM ⟨nx,hfr⟩ ha
  refine((AC.intro' hG hf hb hn hnt hres (h nx)).2 L M w us (SR_noH hM) hfr (by rw[MM_noH];exact ha)).mono ?_
  rintro e w' ⟨u,r',L',nx',H',g1,g0,g2,g3,g4,g5,g6,g7⟩
  refine⟨u,g1,⟨fun _ _ h=>h,g6.os,g6.tape,g6.output,g6.size,g6.keep,fun b _ hb=>absurd hb LB_noH⟩,(g0.sound g5 g7).nr hr⟩
end Go.Proofs.YtlcddiojeghfgaaGreatDoor
