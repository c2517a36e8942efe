import Derived.RangeFuncIn
import Derived.Test.YtlcddiojeghfgaaGreatDoorZ17
set_option linter.unusedVariables false
set_option linter.unusedSimpArgs false
namespace Go.Proofs.YtlcddiojeghfgaaGreatDoor
def XC (cX:Ctx) (P:Program) (o:Oper) (lo hi:Nat) (s:St) (K':St→Prop):Prop:=
  ∀(L:LM) (a:Act) (w:World) (K:Act→World→Prop) (Q:Exit→Act→World→Prop),Cr cX lo hi s L a w→(∀s' L' a' w',K' s'→Cr cX (lo+1) hi s' L' a' w'→K a' w')→oWp cX.rd P o a w K Q
section
variable {P:Program} {Γ:TEnv} {cX:Ctx}
theorem arun_pre (hG:GOk P Γ) {ops:List Oper} {base hi:Nat} {Q:Exit→Act→World→Prop} {K':St→Prop} (post:List Oper):∀(pre:List Oper) (i:Nat) (s:St) (L:LM) (a:Act) (w:World),arun Γ P ops base pre i s K'→
    Cr cX (base+i) hi s L a w→base+i+pre.length≤hi→(∀s' L' a' w',K' s'→Cr cX (base+i+pre.length) hi s' L' a' w'→wpL cX.rd P ops.toArray Q post a' w')→wpL cX.rd P ops.toArray Q (pre++post) a w:=by
  intro pre
  induction pre with
  |nil=>intro i s L a w h c _ hQ;exact hQ s L a w h c
  | cons o rest ih=>
    intro i s L a w h c hlen hQ
    simp only[List.length_cons]at hlen hQ
    simp only[arun]at h
    show wpL cX.rd P ops.toArray Q (o::(rest++post)) a w
    unfold wpL
    rcases gop_wanted c.toCn h o rfl with ⟨hw,hy⟩|⟨hw,hn⟩
    · rw[if_pos hw]
      refine .inl (aop_sound hG hy c (by omega) ?_)
      intro s' L' a' w' hk hc
      exact ih (i+1) s' L' a' w' hk hc (by omega) (fun s2 L2 a2 w2 h2 c2=>hQ s2 L2 a2 w2 h2 (by rw[show base+i+(rest.length+1)=base+(i+1)+rest.length by omega];exact c2))
    · rw[if_neg (by simp[hw])]
      exact ih (i+1) _ L _ w hn (c.put o.dst (.c _)).skip (by omega) (fun s2 L2 a2 w2 h2 c2=>hQ s2 L2 a2 w2 h2 (by rw[show base+i+(rest.length+1)=base+(i+1)+rest.length by omega];exact c2))
theorem AW.regionX (hG:GOk P Γ) {n:Nat} {ops:List Oper} {s:St} {K:Exit→St→Prop} (i:Nat) (o:Oper) (ho:ops[i]? =some o) (hg:o.guard=none)
    (h:arun Γ P ops s.nx (ops.take i) 0 ⟨s.t,s.H,s.nx+ops.length⟩ fun s1=>XC cX P o (s.nx+i) (s.nx+ops.length) s1 fun s2=>arun Γ P ops s.nx (ops.drop (i+1)) (i+1) s2 (K .normal)):AW cX P (.region n ops.toArray false) s K:=by
  intro L a w Q hc hQ
  refine wpL_region ?_
  have hcr:Cr cX (s.nx+0) (s.nx+ops.length) ⟨s.t,s.H,s.nx+ops.length⟩ L a w:=
    ⟨⟨hc.df,hc.sz,hc.sl,hc.sr,fun i hi=>hc.fr i (by simp only at hi;omega),by have:=hc.nx;simp only;omega,hc.lo,hc.st⟩,fun i h1 _=>hc.fr i (by omega),by simp only;omega,by have:=hc.nx;omega⟩
  have hlt:i<ops.length:=(List.getElem?_eq_some_iff.1 ho).1
  have hsplit:ops=ops.take i++(o::ops.drop (i+1)):=by
    conv=>lhs;rw[←List.take_append_drop i ops]
    rw[List.drop_eq_getElem_cons hlt,(List.getElem?_eq_some_iff.1 ho).2]
  show wpL cX.rd P ops.toArray Q ops a w
  have hpre:=arun_pre (cX:=cX) (Q:=Q) hG (o::ops.drop (i+1)) (ops.take i) 0 _ L a w h hcr (by rw[List.length_take];omega) ?_
  · rw[←hsplit]at hpre
    exact hpre
  · intro s1 L1 a1 w1 hx hc1
    rw[List.length_take,show s.nx+0+min i ops.length=s.nx+i by omega]at hc1
    unfold wpL
    rw[if_pos (by simp[Region.wanted,hg])]
    refine .inl (hx L1 a1 w1 _ Q hc1 ?_)
    intro s2 L2 a2 w2 h2 hc2
    exact arun_sound (Q:=Q) hG (ops.drop (i+1)) (i+1) s2 L2 a2 w2 h2 hc2 (by rw[List.length_drop];omega) (fun s' L' a' w' hk hc'=>hQ _ _ _ _ _ hk hc')
def Rnd (P:Program) (rec:Loop) (tA:List AV) (p:Nat) (v:AV) (H:HP) (m:Nat) (Q:HP→Nat→Prop):Prop:=
  ∀cZ:Ctx,AW cZ P rec.assign ⟨tA.set p v,H,m⟩ (thn (fun _ _=>False) fun s2=>∀cZ':Ctx,AW cZ' P rec.body s2 fun e s3=>e= .normal∧Q s3.H s3.nx)
theorem Rnd.mono {rec:Loop} {tA:List AV} {p:Nat} {v:AV} {H:HP} {m:Nat} {Q Q':HP→Nat→Prop} (h:Rnd P rec tA p v H m Q) (hq:∀H m,Q H m→Q' H m):Rnd P rec tA p v H m Q':=
  fun cZ=>(h cZ).mono fun e s' h=>by
    cases e<;>simp only[thn]at h ⊢
    · exact fun cZ'=>(h cZ').mono fun e s3 h=>⟨h.1,hq _ _ h.2⟩
    all_goals exact h
end
end Go.Proofs.YtlcddiojeghfgaaGreatDoor
