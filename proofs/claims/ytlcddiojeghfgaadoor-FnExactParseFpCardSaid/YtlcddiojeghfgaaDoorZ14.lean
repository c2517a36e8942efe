import Derived.Test.YtlcddiojeghfgaaDoorZ12
set_option linter.unusedVariables false
set_option linter.unusedSimpArgs false
namespace Go.Proofs.YtlcddiojeghfgaaDoor
open Nat (reduceAdd reduceSub reduceGT reduceEqDiff reduceMul)
def Le (H H':HP):Prop:=∀i c,H i=some c→H' i=some c
theorem Le.refl (H:HP):Le H H:=fun _ _ h=>h
theorem AC.exact {P:Program} {f:FuncId} {nx:Nat} {H:HP} {xs:List AV} {Q:Nat→HP→AV→Prop} (h:AC P f nx H xs (fun nx' H' r=>∃H2,Le H2 H'∧Q nx' H2 r)):AC P f nx H xs Q:=by
  refine⟨h.1,fun L Av w us a b c=>(h.2 L Av w us a b c).mono ?_⟩
  rintro e w' ⟨u,r,L',nx',H',h1,⟨H2,h2,h2'⟩,h3,h4,h5,h6,h7,h8⟩
  have hm:∀b,MM L' H2 Av b→MM L' H' Av b:=fun b hb=>Or.elim hb .inl (fun hl=> .inr (LB_sub h2 hl))
  exact⟨u,r,L',nx',H2,h1,h2',h3,h4,h5,h6.sub h2,⟨h7.le,h7.os,h7.tape,h7.output,h7.size,h7.keep,fun b hb hl=>h7.old b hb (LB_sub h2 hl)⟩,
    h8.mono (fun _ _ h=>h) (fun _ _ _=>rfl) (fun b _ hb=>hm b hb)⟩
theorem AC.mono2 {P:Program} {f:FuncId} {nx:Nat} {H:HP} {xs:List AV} {Q Q':Nat→HP→AV→Prop} (h:AC P f nx H xs Q) (hq:∀n H r,nx≤n→Q n H r→Q' n H r):AC P f nx H xs Q':=
  ⟨h.1,fun L Av w us a b c=>(h.2 L Av w us a b c).mono fun e w' ⟨u,r,L',nx',H',h1,h2,h3,h4⟩=>⟨u,r,L',nx',H',h1,hq _ _ _ h3 h2,h3,h4⟩⟩
theorem AC.introx {P:Program} {Γ:TEnv} (hG:GOk P Γ) {f:FuncId} {fn:Func} {c:Code} {n:Nat} {rs:Array ResultVar} (hf:P.funcs[f]? =some fn) (hb:fn.body=some c) (hn:(fn.name== "runtime.NumGoroutine")=false) (hnt:fn.ntmps=n) (hres:fn.results=rs) {xs:List AV} {nx:Nat} {H:HP} {Q:Nat→HP→AV→Prop}
    (h:(∀i,nx≤i→H i=none)→∀cX:Ctx,AW cX P c ⟨xs++List.replicate (n-xs.length) .j,H,nx⟩ (finK Γ rs.toList (fun nx' H' r=>∃H2,Le H2 H'∧Q nx' H2 r))):AC P f nx H xs Q:=by
  refine AC.exact ⟨⟨fn,hf,by rw[hb];rfl,hn⟩,fun L Av w us a b c=> ?_⟩
  have hfr:∀i,nx≤i→H i=none:=by
    intro i hi
    cases hh:H i with
    |none=>rfl
    |some cs=>obtain⟨l,h1,_⟩:=a.node i cs hh;rw[b i hi]at h1;cases h1
  exact(AC.intro' hG hf hb hn hnt hres (h hfr)).2 L Av w us a b c
def ivs (n:Nat) (f:Nat→Int):List AV:=(List.range n).map fun k=> .i .i64 (f k)
def vec (n:Nat) (f:Nat→Int):List Int:=(List.range n).map f
def fset (f:Nat→Int) (j:Nat) (x:Int):Nat→Int:=fun k=>if k=j then x else f k
theorem ivs_len {n:Nat} {f:Nat→Int}:(ivs n f).length=n:=by simp[ivs]
theorem ivs_get {n:Nat} {f:Nat→Int} {j:Nat} (h:j<n):(ivs n f).getD j .j= .i .i64 (f j):=by simp[ivs,h]
theorem ivs_ext {n:Nat} {f g:Nat→Int} (h:∀k,k<n→f k=g k):ivs n f=ivs n g:=by
  apply List.map_congr_left
  intro k hk
  rw[h k (List.mem_range.1 hk)]
theorem ivs_set {n:Nat} {f:Nat→Int} {j:Nat} {x:Int} (h:j<n):splice (ivs n f) j [.i .i64 x]=ivs n (fset f j x):=by
  rw[splice_one _ _ _ (by rw[ivs_len];exact h)]
  apply List.ext_getElem?
  intro i
  rw[List.getElem?_set]
  by_cases hi:j=i
  · subst hi;simp[ivs,fset,h]
  · simp only[hi,if_false,ivs,List.getElem?_map]
    by_cases hn:i<n
    · simp[hn,fset,Ne.symm hi]
    · simp[hn]
theorem fset_if {g f:Nat→Int} {k:Nat} {x:Int} (h:x=g k):fset (fun j=>if j<k then g j else f j) k x=fun j=>if j<k+1 then g j else f j:=by
  funext j
  unfold fset
  by_cases h1:j=k
  · subst h1;simp[h]
  · by_cases h2:j<k
    · simp only[h1,h2,if_false,if_true];rw[if_pos (by omega)]
    · simp only[h1,h2,if_false];rw[if_neg (by omega)]
theorem vec_len {n:Nat} {f:Nat→Int}:(vec n f).length=n:=by simp[vec]
theorem vec_get {n:Nat} {f:Nat→Int} {j:Nat} (h:j<n):(vec n f).getD j 0=f j:=by simp[vec,h]
theorem vec_map {n:Nat} {f:Nat→Int}:(vec n f).map (.i .i64)=ivs n f:=by simp[vec,ivs]
theorem vec_of (a:List Int):a=vec a.length (fun k=>a.getD k 0):=by
  apply List.ext_getElem?
  intro i
  by_cases h:i<a.length<;>simp[vec,h]
theorem map_ivs (a:List Int):a.map (.i .i64)=ivs a.length (fun k=>a.getD k 0):=by
  rw[←vec_map,←vec_of]
theorem one_i {k:IntKind} {a:List Int}:(∀z:AV,z∈List.map (AV.i k) a→one z=true)=True:=by
  simp only[eq_iff_iff,iff_true,List.mem_map];rintro z ⟨x,_,rfl⟩;rfl
theorem one_ivs {n:Nat} {f:Nat→Int}:(∀z:AV,z∈ivs n f→one z=true)=True:=by
  simp only[eq_iff_iff,iff_true,ivs,List.mem_map];rintro z ⟨x,_,rfl⟩;rfl
theorem one_r {a:List (List Int)}:(∀z:AV,z∈List.map Go.Proofs.YtlcddiojeghfgaaDoor.ints a→one z=true)=True:=by
  simp only[eq_iff_iff,iff_true,List.mem_map];rintro z ⟨x,_,rfl⟩;rfl
theorem one_c {a:List (List (List Int))}:(∀z:AV,z∈List.map rows a→one z=true)=True:=by
  simp only[eq_iff_iff,iff_true,List.mem_map];rintro z ⟨x,_,rfl⟩;rfl
attribute [go_sem] upd_upd ivs_len ivs_get ivs_set one_i one_ivs one_r one_c
theorem tn1 (k:Nat):((k:Int)+1).toNat=k+1:=by omega
theorem tn2 (k q:Nat):((k:Int)+1+(q:Int)).toNat=k+1+q:=by omega
theorem tn3 (k q:Nat):((k:Int)+(q:Int)).toNat=k+q:=by omega
theorem tn4 (k q:Nat):(((k+1+q:Nat):Int)-(k:Int)-1).toNat=q:=by omega
attribute [go_sem] tn1 tn2 tn3 tn4
def FrI (nx nx':Nat) (H H':HP) (r:AV) (n:Nat) (f:Nat→Int):Prop:=∃id,r= .h id 0 n∧nx≤id∧id<nx'∧H'=upd H id (some (ivs n f))
theorem FrI.own {nx nx':Nat} {H H':HP} {r:AV} {n:Nat} {f:Nat→Int} (h:FrI nx nx' H H' r n f):∃ids,Own nx nx' H' r (ints (vec n f)) ids:=by
  obtain⟨id,rfl,h1,h2,rfl⟩:=h
  exact⟨_,Own.ints (by rw[upd_same,vec_map]) vec_len.symm h1 h2⟩
theorem upd_le {H H':HP} {id:Nat} {c:Option (List AV)} (h:∀i c,i≠id→H i=some c→H' i=some c) (h2:∀d,c=some d→H' id=some d):Le (upd H id c) H':=by
  intro i d hi
  by_cases e:i=id
  · subst e;rw[upd_same]at hi;exact h2 d hi
  · rw[upd_ne _ _ e]at hi;exact h i d e hi
def CpI (nx nx':Nat) (H H':HP) (r:AV) (n:Nat) (f:Nat→Int):Prop:=FrI nx nx' H H' r n f∨(n=0∧r= .v 0 []∧H'=H)
theorem R.nl_v0 {L:LM} {w:World} {M:Nat→Prop} {u:Value} (h:R L w M .nl u):R L w M (.v 0 []) u:=by rw[h.nl_inv];exact .v0 _ _
theorem R.h0_v0 {L:LM} {w:World} {M:Nat→Prop} {id o:Nat} {u:Value} (h:R L w M (.h id o 0) u):R L w M (.v 0 []) u:=by cases h;exact .v0 _ _
theorem AC.hv {P:Program} {f:FuncId} {nx:Nat} {H:HP} {xs:List AV} {Q:Nat→HP→AV→Prop} (h:AC P f nx H xs (fun nx' H' r=>Q nx' H' r∨((∃id o,r= .h id o 0)∧Q nx' H' (.v 0 [])))):AC P f nx H xs Q:=by
  refine⟨h.1,fun L Av w us a b c=>(h.2 L Av w us a b c).mono ?_⟩
  rintro e w' ⟨u,r,L',nx',H',h1,h2,h3,h4,h5,h6,h7,h8⟩
  rcases h2 with h2|⟨⟨id,o,rfl⟩,h2⟩
  · exact⟨u,r,L',nx',H',h1,h2,h3,h4,h5,h6,h7,h8⟩
  · exact⟨u,_,L',nx',H',h1,h2,h3,h4,h5,h6,h7,h8.h0_v0⟩
theorem CpI.zero {P:Program} {f:FuncId} {nx:Nat} {H:HP} {xs:List AV} {n:Nat} {g:Nat→Int} (hn:n=0) (h:AC P f nx H xs (fun nx' H' r=>CpI nx nx' H H' r n g)):AC P f nx H xs (fun _ H' r=>r= .v 0 []∧H'=H):=by
  have hEnt:=h.1
  refine⟨hEnt,fun L Av w us a b c=> ?_⟩
  have hfr:∀i,nx≤i→H i=none:=by
    intro i hi
    cases hh:H i with
    |none=>rfl
    |some cs=>obtain⟨l,h1,_⟩:=a.node i cs hh;rw[b i hi]at h1;cases h1
  refine(AC.hv (AC.exact (h.mono ?_))).2 L Av w us a b c
  rintro nx' H' r (⟨id,rfl,h1,h2,rfl⟩|⟨-,rfl,rfl⟩)
  · refine⟨H,fun i c hi=> ?_,.inr ⟨⟨id,0,by rw[hn]⟩,rfl,rfl⟩⟩
    by_cases e:i=id
    · subst e;rw[hfr i h1]at hi;cases hi
    · rw[upd_ne _ _ e];exact hi
  · exact⟨_,Le.refl _,.inl ⟨rfl,rfl⟩⟩
end Go.Proofs.YtlcddiojeghfgaaDoor
