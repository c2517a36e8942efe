import Derived.Test.YtlcddiojeghfgaaGreatDoorZ09
set_option linter.unusedVariables false
set_option linter.unusedSimpArgs false
namespace Go.Proofs.YtlcddiojeghfgaaGreatDoor
open Nat (reduceAdd reduceSub reduceGT reduceEqDiff reduceMul)
def Le (H H':HP):Prop:=∀i c,H i=some c→H' i=some c
theorem Le.refl (H:HP):Le H H:=fun _ _ h=>h
theorem AC.exact {P:Program} {f:FuncId} {nx:Nat} {H:HP} {xs:List AV} {Q:Nat→HP→AV→Prop} (h:AC P f nx H xs (fun nx' H' r=>∃H2,Le H2 H'∧Q nx' H2 r)):AC P f nx H xs Q:=by
  refine⟨h.1,fun L Av w us a b c=>(h.2 L Av w us a b c).mono ?_⟩
  rintro e w' ⟨u,r,L',nx',H',h1,⟨H2,h2,h2'⟩,h3,h4,h5,h6,h7,h8⟩
  have hm:∀b,MM L' H2 Av b→MM L' H' Av b:=fun b hb=>Or.elim hb .inl (fun hl=> .inr (LB_sub h2 hl))
  exact⟨u,r,L',nx',H2,h1,h2',h3,h4,h5,h6.sub h2,⟨h7.le,h7.os,h7.tape,h7.output,h7.size,h7.keep,fun b hb hl=>h7.old b hb (LB_sub h2 hl)⟩,
    h8.mono (fun _ _ h=>h) (fun _ _ _=>rfl) (fun b _ hb=>hm b hb)⟩
theorem AC.mono2 {P:Program} {f:FuncId} {nx:Nat} {H:HP} {xs:List AV} {Q Q':Nat→HP→AV→Prop} (h:AC P f nx H xs Q) (hq:∀n H r,nx≤n→Q n H r→Q' n H r):AC P f nx H xs Q':=
  ⟨h.1,fun L Av w us a b c=>(h.2 L Av w us a b c).mono fun e w' ⟨u,r,L',nx',H',h1,h2,h3,h4⟩=>⟨u,r,L',nx',H',h1,hq _ _ _ h3 h2,h3,h4⟩⟩
theorem AC.introx {P:Program} {Γ:TEnv} (hG:GOk P Γ) {f:FuncId} {fn:Func} {c:Code} {n:Nat} {rs:Array ResultVar} (hf:P.funcs[f]? =some fn) (hb:fn.body=some c) (hn:(fn.name== "runtime.NumGoroutine")=false) (hnt:fn.ntmps=n) (hres:fn.results=rs) {xs:List AV} {nx:Nat} {H:HP} {Q:Nat→HP→AV→Prop}
    (h:(∀i,nx≤i→H i=none)→∀cX:Ctx,AW cX P c ⟨xs++List.replicate (n-xs.length) .j,H,nx⟩ (finK Γ rs.toList (fun nx' H' r=>∃H2,Le H2 H'∧Q nx' H2 r))):AC P f nx H xs Q:=by
  refine AC.exact ⟨⟨fn,hf,by rw[hb];rfl,hn⟩,fun L Av w us a b c=> ?_⟩
  have hfr:∀i,nx≤i→H i=none:=by
    intro i hi
    cases hh:H i with
    |none=>rfl
    |some cs=>obtain⟨l,h1,_⟩:=a.node i cs hh;rw[b i hi]at h1;cases h1
  exact(AC.intro' hG hf hb hn hnt hres (h hfr)).2 L Av w us a b c
def ivs (n:Nat) (f:Nat→Int):List AV:=(List.range n).map fun k=> .i .i64 (f k)
def vec (n:Nat) (f:Nat→Int):List Int:=(List.range n).map f
def fset (f:Nat→Int) (j:Nat) (x:Int):Nat→Int:=fun k=>if k=j then x else f k
theorem ivs_len {n:Nat} {f:Nat→Int}:(ivs n f).length=n:=by simp[ivs]
theorem ivs_get {n:Nat} {f:Nat→Int} {j:Nat} (h:j<n):(ivs n f).getD j .j= .i .i64 (f j):=by simp[ivs,h]
theorem ivs_ext {n:Nat} {f g:Nat→Int} (h:∀k,k<n→f k=g k):ivs n f=ivs n g:=by
  apply List.map_congr_left
  intro k hk
  rw[h k (List.mem_range.1 hk)]
theorem ivs_set {n:Nat} {f:Nat→Int} {j:Nat} {x:Int} (h:j<n):splice (ivs n f) j [.i .i64 x]=ivs n (fset f j x):=by
  rw[splice_one _ _ _ (by rw[ivs_len];exact h)]
  apply List.ext_getElem?
  intro i
  rw[List.getElem?_set]
  by_cases hi:j=i
  · subst hi;simp[ivs,fset,h]
  · simp only[hi,if_false,ivs,List.getElem?_map]
    by_cases hn:i<n
    · simp[hn,fset,Ne.symm hi]
    · simp[hn]
theorem vec_len {n:Nat} {f:Nat→Int}:(vec n f).length=n:=by simp[vec]
theorem vec_get {n:Nat} {f:Nat→Int} {j:Nat} (h:j<n):(vec n f).getD j 0=f j:=by simp[vec,h]
theorem vec_map {n:Nat} {f:Nat→Int}:(vec n f).map (.i .i64)=ivs n f:=by simp[vec,ivs]
theorem vec_of (a:List Int):a=vec a.length (fun k=>a.getD k 0):=by
  apply List.ext_getElem?
  intro i
  by_cases h:i<a.length<;>simp[vec,h]
theorem map_ivs (a:List Int):a.map (.i .i64)=ivs a.length (fun k=>a.getD k 0):=by
  rw[←vec_map,←vec_of]
theorem ivs_zero {n:Nat}:List.replicate n (.i .i64 0)=ivs n (fun _=>0):=by
  apply List.ext_getElem?
  intro i
  by_cases h:i<n<;>simp[ivs,h]
theorem one_i {k:IntKind} {a:List Int}:(∀z:AV,z∈List.map (AV.i k) a→one z=true)=True:=by
  simp only[eq_iff_iff,iff_true,List.mem_map];rintro z ⟨x,_,rfl⟩;rfl
theorem one_ivs {n:Nat} {f:Nat→Int}:(∀z:AV,z∈ivs n f→one z=true)=True:=by
  simp only[eq_iff_iff,iff_true,ivs,List.mem_map];rintro z ⟨x,_,rfl⟩;rfl
theorem one_r {a:List (List Int)}:(∀z:AV,z∈List.map Go.Proofs.YtlcddiojeghfgaaGreatDoor.ints a→one z=true)=True:=by
  simp only[eq_iff_iff,iff_true,List.mem_map];rintro z ⟨x,_,rfl⟩;rfl
theorem one_c {a:List (List (List Int))}:(∀z:AV,z∈List.map rows a→one z=true)=True:=by
  simp only[eq_iff_iff,iff_true,List.mem_map];rintro z ⟨x,_,rfl⟩;rfl
attribute [go_sem] upd_upd ivs_len ivs_get ivs_set one_i one_ivs one_r one_c
theorem tn1 (k:Nat):((k:Int)+1).toNat=k+1:=by omega
theorem tn2 (k q:Nat):((k:Int)+1+(q:Int)).toNat=k+1+q:=by omega
theorem tn3 (k q:Nat):((k:Int)+(q:Int)).toNat=k+q:=by omega
theorem tn4 (k q:Nat):(((k+1+q:Nat):Int)-(k:Int)-1).toNat=q:=by omega
attribute [go_sem] tn1 tn2 tn3 tn4
def FrI (nx nx':Nat) (H H':HP) (r:AV) (n:Nat) (f:Nat→Int):Prop:=∃id,r= .h id 0 n∧nx≤id∧id<nx'∧H'=upd H id (some (ivs n f))
theorem FrI.own {nx nx':Nat} {H H':HP} {r:AV} {n:Nat} {f:Nat→Int} (h:FrI nx nx' H H' r n f):∃ids,Own nx nx' H' r (ints (vec n f)) ids:=by
  obtain⟨id,rfl,h1,h2,rfl⟩:=h
  exact⟨_,Own.ints (by rw[upd_same,vec_map]) vec_len.symm h1 h2⟩
theorem FrI.aco {P:Program} {f:FuncId} {xs:List AV} {n:Nat} {g:Nat→Int} (h:∀nx,AC P f nx noH xs (fun nx' H' r=>FrI nx nx' noH H' r n g)):ACo P f xs (ints (vec n g)):=
  fun nx=>(h nx).mono fun _ _ _ h=>h.own
theorem spec_l01Own_ok (a:List Int) (ha:a.length≤1099511627776) (nx:Nat) (H:HP):AC Tryz.prog 84 nx H [ints a] (fun nx' H' r=>FrI nx nx' H H' r a.length (fun k=>a.getD k 0)):=by
 refine AC.introx envOk Tryz.func84 rfl (by kernel_rfl) Tryz.ntmps84 Tryz.results84 (fun hfr cX=> ?_)
 refine AW.sr envOk (fun N hN=> ?_)
 simp-dsimp-implicitDefEqProofs (disch:=omega) only[go_sem,undef,ints]
 refine hN _ ?_
 try clear hN N
 refine AW.sr envOk (fun N hN=> ?_)
 simp-dsimp-implicitDefEqProofs (disch:=omega) only[go_sem,undef,ints]
 refine hN _ ?_
 try clear hN N
 refine AW.ret ?_
 simp-dsimp-implicitDefEqProofs (disch:=omega) only[go_sem,undef]
 refine⟨_,?_,nx+1+2,rfl,by omega,by omega,rfl⟩
 rw[map_ivs]
 intro i c hi
 have hlt:H i=some c→i<nx:=fun h=>by apply Classical.byContradiction;intro hn;rw[hfr i (by omega)]at h;cases h
 simp only[upd]at hi ⊢
 split at hi
 ·rename_i e;subst e;cases hi;repeat (first|rw[if_pos rfl]|rw[if_neg (by omega)])
 ·have:=hlt hi;repeat rw[if_neg (by omega)]
  exact hi
def CpI (nx nx':Nat) (H H':HP) (r:AV) (n:Nat) (f:Nat→Int):Prop:=FrI nx nx' H H' r n f∨(n=0∧r= .v 0 []∧H'=H)
theorem R.nl_v0 {L:LM} {w:World} {M:Nat→Prop} {u:Value} (h:R L w M .nl u):R L w M (.v 0 []) u:=by rw[h.nl_inv];exact .v0 _ _
theorem R.h0_v0 {L:LM} {w:World} {M:Nat→Prop} {id o:Nat} {u:Value} (h:R L w M (.h id o 0) u):R L w M (.v 0 []) u:=by cases h;exact .v0 _ _
theorem AC.hv {P:Program} {f:FuncId} {nx:Nat} {H:HP} {xs:List AV} {Q:Nat→HP→AV→Prop} (h:AC P f nx H xs (fun nx' H' r=>Q nx' H' r∨((∃id o,r= .h id o 0)∧Q nx' H' (.v 0 [])))):AC P f nx H xs Q:=by
  refine⟨h.1,fun L Av w us a b c=>(h.2 L Av w us a b c).mono ?_⟩
  rintro e w' ⟨u,r,L',nx',H',h1,h2,h3,h4,h5,h6,h7,h8⟩
  rcases h2 with h2|⟨⟨id,o,rfl⟩,h2⟩
  · exact⟨u,r,L',nx',H',h1,h2,h3,h4,h5,h6,h7,h8⟩
  · exact⟨u,_,L',nx',H',h1,h2,h3,h4,h5,h6,h7,h8.h0_v0⟩
theorem CpI.zero {P:Program} {f:FuncId} {nx:Nat} {H:HP} {xs:List AV} {n:Nat} {g:Nat→Int} (hn:n=0) (h:AC P f nx H xs (fun nx' H' r=>CpI nx nx' H H' r n g)):AC P f nx H xs (fun _ H' r=>r= .v 0 []∧H'=H):=by
  have hEnt:=h.1
  refine⟨hEnt,fun L Av w us a b c=> ?_⟩
  have hfr:∀i,nx≤i→H i=none:=by
    intro i hi
    cases hh:H i with
    |none=>rfl
    |some cs=>obtain⟨l,h1,_⟩:=a.node i cs hh;rw[b i hi]at h1;cases h1
  refine(AC.hv (AC.exact (h.mono ?_))).2 L Av w us a b c
  rintro nx' H' r (⟨id,rfl,h1,h2,rfl⟩|⟨-,rfl,rfl⟩)
  · refine⟨H,fun i c hi=> ?_,.inr ⟨⟨id,0,by rw[hn]⟩,rfl,rfl⟩⟩
    by_cases e:i=id
    · subst e;rw[hfr i h1]at hi;cases hi
    · rw[upd_ne _ _ e];exact hi
  · exact⟨_,Le.refl _,.inl ⟨rfl,rfl⟩⟩
open Nat (reduceAdd reduceSub reduceGT reduceEqDiff reduceMul)
theorem AW.loop1 {cX:Ctx} {P:Program} {c:Code} {s:St} {K:Exit→St→Prop} (h:AW cX P c s (thn K fun _=>False)):AW cX P (.loop c) s K:=
  AW.loopN (α:=Unit) (fun _=>s.t) (fun _=>s.H) (fun _ m=>m=s.nx) (fun _=>0) () rfl (by
    have:∀t:List AV,wks t t:=by
      intro t
      induction t with
      |nil=>exact trivial
      |cons x xs ih=>exact⟨.inr (.inl rfl),ih⟩
    exact this _) (fun _ _ h=>h) (fun _ m hm=>by
      subst hm
      exact h.mono (fun e s' h=>by cases e<;>simp only[thn]at h ⊢<;>first|exact h.elim|exact h))
def nst (p:Int) (pw:List (List Int)) (i:Nat) (f:Nat→Int):Nat→Int:=fun j=>if j=i then f i%p else f j+f i/p*(pw.getD i []).getD j 0
def nrm (p:Int) (pw:List (List Int)):Nat→(Nat→Int)→Nat→Int
  |0,f=>f
  |i+1,f=>nst p pw i (nrm p pw i f)
structure Tri (p:Int) (pw:List (List Int)):Prop where
  p2:2≤p
  p7:p≤7
  n6:pw.length≤6
  len:∀i,i<pw.length→(pw.getD i []).length=pw.length
  rng:∀i j,i<pw.length→j<pw.length→0≤(pw.getD i []).getD j 0∧(pw.getD i []).getD j 0≤p-1
  tri:∀i j,i<pw.length→j≤i→(pw.getD i []).getD j 0=0
theorem shapeP.tri {p:Int} {pw:List (List Int)} {br:List (List (List Int))} (h:shapeP p pw br):Tri p pw:=by
  obtain⟨h1,h2,h3,h4,h5⟩:=h
  have h6:=pr4_bd h1
  refine⟨h6.1,h6.2,h2,fun i hi=> ?_,fun i j hi hj=> ?_,fun i j hi hj=>(h5 i hi).2.1 j hj⟩
  · have:=(h5 i hi).1.1;omega
  · have h7:=(h5 i hi).1
    exact h7.2 j (by have:=h7.1;omega)
def rsum:Nat→(Nat→Int)→Int
  |0,_=>0
  |n+1,F=>rsum n F+F n
theorem rsum_ext {F G:Nat→Int}:∀{n:Nat},(∀i,i<n→F i=G i)→rsum n F=rsum n G:=by
  intro n
  induction n with
  |zero=>intro _;rfl
  |succ n ih=>intro h;rw[rsum,rsum,ih (fun i hi=>h i (by omega)),h n (by omega)]
theorem rsum_add (F G:Nat→Int):∀n,rsum n (fun i=>F i+G i)=rsum n F+rsum n G:=by
  intro n
  induction n with
  |zero=>rfl
  |succ n ih=>rw[rsum,rsum,rsum,ih];omega
theorem rsum_mul (c:Int) (F:Nat→Int):∀n,rsum n (fun i=>c*F i)=c*rsum n F:=by
  intro n
  induction n with
  |zero=>simp[rsum]
  |succ n ih=>rw[rsum,rsum,ih,Int.mul_add]
theorem rsum_zero:∀n,rsum n (fun _=>0)=0:=by
  intro n
  induction n with
  |zero=>rfl
  |succ n ih=>rw[rsum,ih];rfl
def Cg (p:Int) (pw:List (List Int)) (f g:Nat→Int):Prop:=∃c:Nat→Int,∀j,j<pw.length→f j-g j=p*c j-rsum pw.length (fun i=>c i*(pw.getD i []).getD j 0)
theorem Cg.of {p:Int} {pw:List (List Int)} {f g:Nat→Int} (h:∀j,j<pw.length→f j=g j):Cg p pw f g:=
  ⟨fun _=>0,fun j hj=>by simp[h j hj,rsum_zero]⟩
theorem Cg.refl {p:Int} {pw:List (List Int)} (f:Nat→Int):Cg p pw f f:= .of fun _ _=>rfl
theorem Cg.trans {p:Int} {pw:List (List Int)} {f g h:Nat→Int} (a:Cg p pw f g) (b:Cg p pw g h):Cg p pw f h:=by
  obtain⟨c,hc⟩:=a
  obtain⟨c',hc'⟩:=b
  refine⟨fun i=>c i+c' i,fun j hj=> ?_⟩
  have h1:=hc j hj
  have h2:=hc' j hj
  have h3:rsum pw.length (fun i=>(c i+c' i)*(pw.getD i []).getD j 0)=rsum pw.length (fun i=>c i*(pw.getD i []).getD j 0)+rsum pw.length (fun i=>c' i*(pw.getD i []).getD j 0):=by
    rw[←rsum_add]
    exact rsum_ext (fun i _=>Int.add_mul _ _ _)
  rw[h3,Int.mul_add];omega
theorem Cg.symm {p:Int} {pw:List (List Int)} {f g:Nat→Int} (a:Cg p pw f g):Cg p pw g f:=by
  obtain⟨c,hc⟩:=a
  refine⟨fun i=>(-1)*c i,fun j hj=> ?_⟩
  have h1:=hc j hj
  have h3:rsum pw.length (fun i=>(-1)*c i*(pw.getD i []).getD j 0)=(-1)*rsum pw.length (fun i=>c i*(pw.getD i []).getD j 0):=by
    rw[←rsum_mul]
    exact rsum_ext (fun i _=>Int.mul_assoc _ _ _)
  have h4:p*(-1*c j)= -(p*c j):=by rw[Int.mul_left_comm];omega
  rw[h3,h4];omega
theorem Cg.ext {p:Int} {pw:List (List Int)} {f g f' g':Nat→Int} (a:Cg p pw f g) (h:∀j,j<pw.length→f j=f' j) (h':∀j,j<pw.length→g j=g' j):Cg p pw f' g':=
  (Cg.of (fun j hj=>(h j hj).symm)).trans (a.trans (.of h'))
def Box (p:Int) (n:Nat) (f:Nat→Int):Prop:=∀j,j<n→0≤f j∧f j≤p-1
theorem Cg.eq {p:Int} {pw:List (List Int)} (t:Tri p pw) {f g:Nat→Int} (h:Cg p pw f g) (hf:Box p pw.length f) (hg:Box p pw.length g):∀j,j<pw.length→f j=g j:=by
  obtain⟨c,hc⟩:=h
  have hp:=t.p2
  have key:∀j,j<pw.length→c j=0:=by
    intro j
    induction j using Nat.strongRecOn with
    | _ j ih=>
      intro hj
      have h1:=hc j hj
      have h2:rsum pw.length (fun i=>c i*(pw.getD i []).getD j 0)=0:=by
        rw[rsum_ext (G:=fun _=>0) (fun i hi=> ?_),rsum_zero]
        by_cases hij:i<j
        · rw[ih i hij hi];simp
        · rw[t.tri i j hi (by omega)];simp
      rw[h2]at h1
      have h3:=hf j hj
      have h4:=hg j hj
      apply Classical.byContradiction
      intro hne
      rcases Int.lt_or_gt_of_ne hne with hlt|hgt
      · have:p*c j≤p*(-1):=Int.mul_le_mul_of_nonneg_left (by omega) (by omega)
        omega
      · have:p*1≤p*c j:=Int.mul_le_mul_of_nonneg_left (by omega) (by omega)
        omega
  intro j hj
  have h1:=hc j hj
  rw[key j hj,rsum_ext (G:=fun _=>0) (fun i hi=>by rw[key i hi];simp),rsum_zero]at h1
  omega
def nf (p:Int) (pw:List (List Int)) (f:Nat→Int):List Int:=vec pw.length (nrm p pw pw.length f)
structure El (p:Int) (n:Nat) (a:List Int):Prop where
  len:a.length=n
  rng:∀j,j<n→0≤a.getD j 0∧a.getD j 0≤p-1
theorem isEl.el {p:Int} {n:Nat} {a:List Int} (h:isEl p n a):El p n a:=⟨by have:=h.1;omega,fun j hj=>h.2 j (by have:=h.1;omega)⟩
theorem El.is {p:Int} {n:Nat} {a:List Int} (h:El p n a):isEl p n a:=⟨by rw[h.len],fun j hj=>h.rng j (by rw[←h.len];exact hj)⟩
open Nat (reduceAdd reduceSub reduceGT reduceEqDiff reduceMul)
theorem Vw.ivs {H:HP} {id n:Nat} {f:Nat→Int} (h:H id=some (ivs n f)):Vw H (.h id 0 n) (ints (vec n f)):=by
  unfold Go.Proofs.YtlcddiojeghfgaaGreatDoor.ints
  rw[vec_len,vec_map]
  exact .h id 0 n _ _ h (by rw[ivs_len];omega) ivs_len (fun k x y hx hy=>by rw[Nat.zero_add,hy]at hx;cases hx;exact .refl _)
def mixL (p:Int) (pw:List (List Int)) (k:Int) (a:List Int) (m:Int) (b:List Int):List Int:=nf p pw (fun j=>k*a.getD j 0+m*b.getD j 0)
def Sml (n:Nat) (k:Int) (a:List Int):Prop:=∀j,j<n→-400000000000000≤k*a.getD j 0∧k*a.getD j 0≤400000000000000
def unitL (n k:Nat):List Int:=vec n (fun j=>if j=k then 1 else 0)
def MvI (H:HP) (r:AV) (n:Nat) (f:Nat→Int):Prop:=(∃id,r= .h id 0 n∧H id=some (ivs n f))∨(n=0∧r= .v 0 [])
theorem MvI.vw {H:HP} {r:AV} {n:Nat} {f:Nat→Int} (h:MvI H r n f):Vw H r (ints (vec n f)):=by
  rcases h with ⟨id,rfl,h⟩|⟨rfl,rfl⟩
  · exact .ivs h
  · exact .refl _
def mulL (p:Int) (pw:List (List Int)) (k:Int) (a:List Int):List Int:=nf p pw (fun j=>k*a.getD j 0)
open Nat (reduceAdd reduceSub reduceGT reduceEqDiff reduceMul)
structure Sh (p:Int) (pw:List (List Int)) (br:List (List (List Int))):Prop extends Tri p pw where
  bl:br.length=pw.length
  rl:∀i,i<pw.length→(br.getD i []).length+1+i=pw.length
  el:∀i k,i<pw.length→k<(br.getD i []).length→El p pw.length ((br.getD i []).getD k [])
theorem shapeP.sh {p:Int} {pw:List (List Int)} {br:List (List (List Int))} (h:shapeP p pw br):Sh p pw br:=
  ⟨h.tri,h.2.2.1,fun i hi=>(h.2.2.2.2 i hi).2.2.1,fun i k hi hk=>((h.2.2.2.2 i hi).2.2.2 k hk).1.el⟩
def brc (a b:List Int) (i r:Nat):Int:=a.getD i 0*b.getD (i+1+r) 0-a.getD (i+1+r) 0*b.getD i 0
def brow (a b:List Int) (bi:List (List Int)) (i q t:Nat):Int:=rsum q (fun r=>brc a b i r*(bi.getD r []).getD t 0)
def bsum (a b:List Int) (br:List (List (List Int))) (k t:Nat):Int:=rsum k (fun i=>brow a b (br.getD i []) i (br.getD i []).length t)
def brkL (p:Int) (pw:List (List Int)) (br:List (List (List Int))) (a b:List Int):List Int:=nf p pw (fun t=>bsum a b br pw.length t)
theorem Sml.box {n:Nat} {k C:Int} {a:List Int} (h:∀j,j<n→-C≤k*a.getD j 0∧k*a.getD j 0≤C) (hC:C≤400000000000000):Sml n k a:=fun j hj=>by have:=h j hj;omega
theorem El.vec {p:Int} {n:Nat} {f:Nat→Int} (h:Box p n f):El p n (vec n f):=⟨vec_len,fun j hj=>by rw[vec_get hj];exact h j hj⟩
end Go.Proofs.YtlcddiojeghfgaaGreatDoor
