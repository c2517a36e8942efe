import Derived.Test.YtghmeeifjeafmaaGreatZ08
set_option linter.unusedVariables false
set_option linter.unusedSimpArgs false
namespace Go.Proofs.YtghmeeifjeafmaaGreat
open Nat (reduceAdd reduceSub reduceGT reduceEqDiff reduceMul)
theorem take_ext {α:Type} (d:α) {a b:List α} (hl:a.length=b.length) {k:Nat} (hk:k<a.length) (h:a.take k=b.take k) (he:a.getD k d=b.getD k d):a.take (k+1)=b.take (k+1):=by
  rw[List.take_add_one,List.take_add_one,h]
  congr 1
  simp[hk,show k<b.length by omega]at he
  simp[hk,show k<b.length by omega,he]
open Nat (reduceAdd reduceSub reduceGT reduceEqDiff reduceMul)
def pr4 (p:Int):Prop:=p=2∨p=3∨p=5∨p=7
theorem spec_l01Prime_ok (p:Int):ACp Tryz.prog 128 [.i .i64 p] (.b (tf (pr4 p))):=by
 refine ACp.intro' envOk Tryz.func128 rfl (by kernel_rfl) Tryz.ntmps128 Tryz.results128 (.b _) (fun nx cX=>?_)
 refine AW.sr envOk (fun N hN=>?_);simp-dsimp-implicitDefEqProofs (disch:=omega)only[go_sem,];refine hN _ ?_;try clear hN N
 refine AW.sr envOk (fun N hN=>?_);simp-dsimp-implicitDefEqProofs (disch:=omega)only[go_sem,];refine gopB.mk' (fun h1=>?_) (fun h1=>?_)
 ·try simp only[cn]at h1
  try simp-dsimp-implicitDefEqProofs (disch:=omega)only[go_sem,]
  refine gopB.mk' (fun h2=>?_) (fun h2=>?_)
  ·try simp only[cn]at h2
   try simp-dsimp-implicitDefEqProofs (disch:=omega)only[go_sem,]
   refine gopB.mk' (fun h3=>?_) (fun h3=>?_)
   ·try simp only[cn]at h3
    try simp-dsimp-implicitDefEqProofs (disch:=omega)only[go_sem,]
    refine hN _ ?_;try clear hN N
    refine AW.ret ?_;simp-dsimp-implicitDefEqProofs (disch:=omega)only[go_sem];exact bt (by simp_all[pr4,tf];try rfl)
   try simp only[cn]at h3
   try simp-dsimp-implicitDefEqProofs (disch:=omega)only[go_sem,]
   refine hN _ ?_;try clear hN N
   refine AW.ret ?_;simp-dsimp-implicitDefEqProofs (disch:=omega)only[go_sem];exact bt (by simp_all[pr4,tf];try rfl)
  try simp only[cn]at h2
  try simp-dsimp-implicitDefEqProofs (disch:=omega)only[go_sem,]
  refine hN _ ?_;try clear hN N
  refine AW.ret ?_;simp-dsimp-implicitDefEqProofs (disch:=omega)only[go_sem];exact bt (by simp_all[pr4,tf];try rfl)
 try simp only[cn]at h1
 try simp-dsimp-implicitDefEqProofs (disch:=omega)only[go_sem,]
 refine hN _ ?_;try clear hN N
 refine AW.ret ?_;simp-dsimp-implicitDefEqProofs (disch:=omega)only[go_sem];exact bt (by simp_all[pr4,tf];try rfl)
theorem impl_IsGroupPrime_ok (p:Int):ACp Tryz.prog 105 [.i .i64 p] (.b (tf (pr4 p))):=by
 refine ACp.intro' envOk Tryz.func105 rfl (by kernel_rfl) Tryz.ntmps105 Tryz.results105 (.b _) (fun nx cX=>?_)
 refine AW.sr envOk (fun N hN=>?_);simp-dsimp-implicitDefEqProofs (disch:=omega)only[go_sem,];refine hN _ ?_;try clear hN N
 refine AW.sr envOk (fun N hN=>?_);simp-dsimp-implicitDefEqProofs (disch:=omega)only[go_sem,];refine gopB.mk' (fun h1=>?_) (fun h1=>?_)
 ·try simp only[cn]at h1
  try simp-dsimp-implicitDefEqProofs (disch:=omega)only[go_sem,]
  refine gopB.mk' (fun h2=>?_) (fun h2=>?_)
  ·try simp only[cn]at h2
   try simp-dsimp-implicitDefEqProofs (disch:=omega)only[go_sem,]
   refine gopB.mk' (fun h3=>?_) (fun h3=>?_)
   ·try simp only[cn]at h3
    try simp-dsimp-implicitDefEqProofs (disch:=omega)only[go_sem,]
    refine hN _ ?_;try clear hN N
    refine AW.ret ?_;simp-dsimp-implicitDefEqProofs (disch:=omega)only[go_sem];exact bt (by simp_all[pr4,tf];try rfl)
   try simp only[cn]at h3
   try simp-dsimp-implicitDefEqProofs (disch:=omega)only[go_sem,]
   refine hN _ ?_;try clear hN N
   refine AW.ret ?_;simp-dsimp-implicitDefEqProofs (disch:=omega)only[go_sem];exact bt (by simp_all[pr4,tf];try rfl)
  try simp only[cn]at h2
  try simp-dsimp-implicitDefEqProofs (disch:=omega)only[go_sem,]
  refine hN _ ?_;try clear hN N
  refine AW.ret ?_;simp-dsimp-implicitDefEqProofs (disch:=omega)only[go_sem];exact bt (by simp_all[pr4,tf];try rfl)
 try simp only[cn]at h1
 try simp-dsimp-implicitDefEqProofs (disch:=omega)only[go_sem,]
 refine hN _ ?_;try clear hN N
 refine AW.ret ?_;simp-dsimp-implicitDefEqProofs (disch:=omega)only[go_sem];exact bt (by simp_all[pr4,tf];try rfl)
theorem spec_l01In_ok (n lo hi:Int):ACp Tryz.prog 151 [.i .i64 n,.i .i64 lo,.i .i64 hi] (.b (tf (lo≤n∧n≤hi))):=by
 refine ACp.intro' envOk Tryz.func151 rfl (by kernel_rfl) Tryz.ntmps151 Tryz.results151 (.b _) (fun nx cX=>?_)
 refine AW.sr envOk (fun N hN=>?_);simp-dsimp-implicitDefEqProofs (disch:=omega)only[go_sem,];refine hN _ ?_;try clear hN N
 refine AW.sr envOk (fun N hN=>?_);simp-dsimp-implicitDefEqProofs (disch:=omega)only[go_sem,];refine gopB.mk' (fun h1=>?_) (fun h1=>?_)
 ·try simp only[cn]at h1
  try simp-dsimp-implicitDefEqProofs (disch:=omega)only[go_sem,]
  refine hN _ ?_;try clear hN N
  refine AW.ret ?_;simp-dsimp-implicitDefEqProofs (disch:=omega)only[go_sem];exact bt (by simp_all[tf];try omega)
 try simp only[cn]at h1
 try simp-dsimp-implicitDefEqProofs (disch:=omega)only[go_sem,]
 refine hN _ ?_;try clear hN N
 refine AW.ret ?_;simp-dsimp-implicitDefEqProofs (disch:=omega)only[go_sem];exact bt (by simp_all[tf];try omega)
theorem impl_inside_ok (n lo hi:Int):ACp Tryz.prog 70 [.i .i64 n,.i .i64 lo,.i .i64 hi] (.b (tf (lo≤n∧n≤hi))):=by
 refine ACp.intro' envOk Tryz.func70 rfl (by kernel_rfl) Tryz.ntmps70 Tryz.results70 (.b _) (fun nx cX=>?_)
 refine AW.sr envOk (fun N hN=>?_);simp-dsimp-implicitDefEqProofs (disch:=omega)only[go_sem,];refine hN _ ?_;try clear hN N
 refine AW.sr envOk (fun N hN=>?_);simp-dsimp-implicitDefEqProofs (disch:=omega)only[go_sem,];refine gopB.mk' (fun h1=>?_) (fun h1=>?_)
 ·try simp only[cn]at h1
  try simp-dsimp-implicitDefEqProofs (disch:=omega)only[go_sem,]
  refine hN _ ?_;try clear hN N
  refine AW.ret ?_;simp-dsimp-implicitDefEqProofs (disch:=omega)only[go_sem];exact bt (by simp_all[tf];try omega)
 try simp only[cn]at h1
 try simp-dsimp-implicitDefEqProofs (disch:=omega)only[go_sem,]
 refine hN _ ?_;try clear hN N
 refine AW.ret ?_;simp-dsimp-implicitDefEqProofs (disch:=omega)only[go_sem];exact bt (by simp_all[tf];try omega)
def zeros (a:List Int):Prop:=∀j,j<a.length→a.getD j 0=0
theorem impl_isZero_ok (a:List Int) (ha':a.length≤1099511627776):ACp Tryz.prog 73 [ints a] (.b (tf (zeros a))):=by
 refine ACp.intro' envOk Tryz.func73 rfl (by kernel_rfl) Tryz.ntmps73 Tryz.results73 (.b _) (fun nx cX=>?_)
 refine AW.sr envOk (fun N hN=>?_);simp-dsimp-implicitDefEqProofs (disch:=omega)only[go_sem,ints,gd_i];refine hN _ ?_;try clear hN N
 refine AW.seq (fun N1 hN1=>?_);refine AW.sr envOk (fun N hN=>?_);simp-dsimp-implicitDefEqProofs (disch:=omega)only[go_sem,ints,gd_i];refine hN _ ?_;try clear hN N
 refine AW.block ?_;refine AW.loopN (α:=Nat) (fun x=>sl 14 [(5,ints a),(6,.i .i64 a.length),(7,.i .i64 x)]) (fun _=>noH) (fun x m=>x≤a.length∧∀j,j<x→a.getD j 0=0) (fun x=>a.length-x) (0) ?_ ?_ (fun _ _ h=>h) ?_
 ·exact⟨by omega,by intro j hj;omega⟩
 ·simp(disch:=omega) [wks,wkA,sl,w64,ints,rows,cubes,ints,gd_i,w64]<;>omega
 skip
 rintro k m ⟨hk,hI⟩
 simp-dsimp-implicitDefEqProofs (disch:=omega)only[go_sem];refine AW.sr envOk (fun N hN=>?_);simp-dsimp-implicitDefEqProofs (disch:=omega)only[go_sem,ints,gd_i];refine hN _ ?_;try clear hN N
 refine AW.seq (fun N2 hN2=>?_);refine AW.cond rfl (fun h1=>?_) (fun h1=>?_)
 ·try simp only[cn]at h1
  refine AW.skip ?_;simp only[thn,blk];refine hN2 _ ?_;try clear hN2 N2
  refine AW.seq (fun N3 hN3=>?_);refine AW.block ?_;refine AW.sr envOk (fun N hN=>?_);simp-dsimp-implicitDefEqProofs (disch:=omega)only[go_sem,ints,gd_i];refine hN _ ?_;try clear hN N
  refine AW.sr envOk (fun N hN=>?_);simp-dsimp-implicitDefEqProofs (disch:=omega)only[go_sem,ints,gd_i];refine hN _ ?_;try clear hN N
  refine AW.cond rfl (fun h2=>?_) (fun h2=>?_)
  ·try simp only[cn]at h2
   refine AW.sr envOk (fun N hN=>?_);simp-dsimp-implicitDefEqProofs (disch:=omega)only[go_sem,ints,gd_i];refine hN _ ?_;try clear hN N
   refine AW.ret ?_;simp-dsimp-implicitDefEqProofs (disch:=omega)only[go_sem];exact bt (tf_f (fun h=>h2 (h k (by omega)))).symm
  try simp only[cn]at h2
  refine AW.skip ?_;simp only[thn,blk];refine hN3 _ ?_;try clear hN3 N3
  refine AW.regionL envOk ?_;simp-dsimp-implicitDefEqProofs (disch:=omega)only[go_sem,ints,gd_i];refine⟨k+1,?_,fun _ _ h=>h,?_,?_⟩
  ·simp(disch:=omega) [wks,wkA,sl,w64,ints,rows,cubes,ints,gd_i,w64]<;>omega
  ·refine⟨by omega,fun j hj=>?_⟩
   by_cases e:j=k
   ·subst e;exact h2
   exact hI j (by omega)
  first|omega|(simp only;omega)
 try simp only[cn]at h1
 refine AW.exit ?_;simp only[thn,blk,if_true];refine hN1 _ ?_;try clear hN1 N1
 refine AW.sr envOk (fun N hN=>?_);simp-dsimp-implicitDefEqProofs (disch:=omega)only[go_sem,ints,gd_i];refine hN _ ?_;try clear hN N
 refine AW.ret ?_;simp-dsimp-implicitDefEqProofs (disch:=omega)only[go_sem];exact bt (tf_t (fun j hj=>hI j (by omega))).symm
theorem pr4_bd {p:Int} (h:pr4 p):2≤p∧p≤7:=by unfold pr4 at h;omega
open Nat (reduceAdd reduceSub reduceGT reduceEqDiff reduceMul)
structure ringlen (pw:List (List Int)) (br:List (List (List Int))):Prop where
  n:pw.length≤1048576
  v:∀i,(pw.getD i []).length≤1048576
  b:br.length≤1048576
  r:∀i,(br.getD i []).length≤1048576
  e:∀i j,((br.getD i []).getD j []).length≤1048576
open Nat (reduceAdd reduceSub reduceGT reduceEqDiff reduceMul)
structure rowslen (a:List (List Int)):Prop where
  n:a.length≤1048576
  v:∀x∈a,x.length≤1048576
structure cubeslen (a:List (List (List Int))):Prop where
  n:a.length≤1048576
  v:∀x∈a,rowslen x
theorem getD_mem {α:Type} {P:α→Prop} {xs:List α} {d:α} (h:∀x∈xs,P x) (hd:P d) (i:Nat):P (xs.getD i d):=by
  by_cases hi:i<xs.length
  · exact h _ (by simp[hi])
  simp[List.getD_eq_getElem?_getD,List.getElem?_eq_none (Nat.le_of_not_lt hi),hd]
theorem rowslen.nil:rowslen []:=⟨by simp,by simp⟩
theorem rowslen.getD {a:List (List Int)} (h:rowslen a) (i:Nat):(a.getD i []).length≤1048576:=getD_mem (P:=fun x:List Int=>x.length≤1048576) h.v (by simp) i
theorem ringlen.of {pw:List (List Int)} {br:List (List (List Int))} (h1:rowslen pw) (h2:cubeslen br):ringlen pw br:=
  ⟨h1.n,h1.getD,h2.n,fun i=>(getD_mem h2.v .nil i).n,fun i j=>(getD_mem h2.v .nil i).getD j⟩
open Nat (reduceAdd reduceSub reduceGT reduceEqDiff reduceMul)
def Le (H H':HP):Prop:=∀i c,H i=some c→H' i=some c
theorem Le.refl (H:HP):Le H H:=fun _ _ h=>h
theorem AC.exact {P:Program} {f:FuncId} {nx:Nat} {H:HP} {xs:List AV} {Q:Nat→HP→AV→Prop} (h:AC P f nx H xs (fun nx' H' r=>∃H2,Le H2 H'∧Q nx' H2 r)):AC P f nx H xs Q:=by
  refine⟨h.1,fun L Av w us a b c=>(h.2 L Av w us a b c).mono ?_⟩
  rintro e w' ⟨u,r,L',nx',H',h1,⟨H2,h2,h2'⟩,h3,h4,h5,h6,h7,h8⟩
  have hm:∀b,MM L' H2 Av b→MM L' H' Av b:=fun b hb=>Or.elim hb .inl (fun hl=> .inr (LB_sub h2 hl))
  exact⟨u,r,L',nx',H2,h1,h2',h3,h4,h5,h6.sub h2,⟨h7.le,h7.os,h7.tape,h7.output,h7.size,h7.keep,fun b hb hl=>h7.old b hb (LB_sub h2 hl)⟩,
    h8.mono (fun _ _ h=>h) (fun _ _ _=>rfl) (fun b _ hb=>hm b hb)⟩
theorem AC.mono2 {P:Program} {f:FuncId} {nx:Nat} {H:HP} {xs:List AV} {Q Q':Nat→HP→AV→Prop} (h:AC P f nx H xs Q) (hq:∀n H r,nx≤n→Q n H r→Q' n H r):AC P f nx H xs Q':=
  ⟨h.1,fun L Av w us a b c=>(h.2 L Av w us a b c).mono fun e w' ⟨u,r,L',nx',H',h1,h2,h3,h4⟩=>⟨u,r,L',nx',H',h1,hq _ _ _ h3 h2,h3,h4⟩⟩
theorem AC.introx {P:Program} {Γ:TEnv} (hG:GOk P Γ) {f:FuncId} {fn:Func} {c:Code} {n:Nat} {rs:Array ResultVar} (hf:P.funcs[f]? =some fn) (hb:fn.body=some c) (hn:(fn.name== "runtime.NumGoroutine")=false) (hnt:fn.ntmps=n) (hres:fn.results=rs) {xs:List AV} {nx:Nat} {H:HP} {Q:Nat→HP→AV→Prop}
    (h:(∀i,nx≤i→H i=none)→∀cX:Ctx,AW cX P c ⟨xs++List.replicate (n-xs.length) .j,H,nx⟩ (finK Γ rs.toList (fun nx' H' r=>∃H2,Le H2 H'∧Q nx' H2 r))):AC P f nx H xs Q:=by
  refine AC.exact ⟨⟨fn,hf,by rw[hb];rfl,hn⟩,fun L Av w us a b c=>?_⟩
  have hfr:∀i,nx≤i→H i=none:=by
    intro i hi
    cases hh:H i with
    |none=>rfl
    |some cs=>obtain⟨l,h1,_⟩:=a.node i cs hh;rw[b i hi]at h1;cases h1
  exact(AC.intro' hG hf hb hn hnt hres (h hfr)).2 L Av w us a b c
def ivs (n:Nat) (f:Nat→Int):List AV:=(List.range n).map fun k=> .i .i64 (f k)
def vec (n:Nat) (f:Nat→Int):List Int:=(List.range n).map f
def fset (f:Nat→Int) (j:Nat) (x:Int):Nat→Int:=fun k=>if k=j then x else f k
theorem ivs_len {n:Nat} {f:Nat→Int}:(ivs n f).length=n:=by simp[ivs]
theorem ivs_get {n:Nat} {f:Nat→Int} {j:Nat} (h:j<n):(ivs n f).getD j .j= .i .i64 (f j):=by simp[ivs,h]
theorem ivs_ext {n:Nat} {f g:Nat→Int} (h:∀k,k<n→f k=g k):ivs n f=ivs n g:=by
  apply List.map_congr_left
  intro k hk
  rw[h k (List.mem_range.1 hk)]
theorem ivs_set {n:Nat} {f:Nat→Int} {j:Nat} {x:Int} (h:j<n):splice (ivs n f) j [.i .i64 x]=ivs n (fset f j x):=by
  rw[splice_one _ _ _ (by rw[ivs_len];exact h)]
  apply List.ext_getElem?
  intro i
  rw[List.getElem?_set]
  by_cases hi:j=i
  · subst hi;simp[ivs,fset,h]
  simp only[hi,if_false,ivs,List.getElem?_map]
  by_cases hn:i<n
  · simp[hn,fset,Ne.symm hi]
  simp[hn]
theorem vec_len {n:Nat} {f:Nat→Int}:(vec n f).length=n:=by simp[vec]
theorem vec_get {n:Nat} {f:Nat→Int} {j:Nat} (h:j<n):(vec n f).getD j 0=f j:=by simp[vec,h]
theorem vec_map {n:Nat} {f:Nat→Int}:(vec n f).map (.i .i64)=ivs n f:=by simp[vec,ivs]
theorem vec_ext {n:Nat} {f g:Nat→Int} (h:∀k,k<n→f k=g k):vec n f=vec n g:=by
  apply List.map_congr_left
  intro k hk
  rw[h k (List.mem_range.1 hk)]
theorem vec_of (a:List Int):a=vec a.length (fun k=>a.getD k 0):=by
  apply List.ext_getElem?
  intro i
  by_cases h:i<a.length<;>simp[vec,h]
theorem map_ivs (a:List Int):a.map (.i .i64)=ivs a.length (fun k=>a.getD k 0):=by
  rw[←vec_map,←vec_of]
theorem ivs_zero {n:Nat}:List.replicate n (.i .i64 0)=ivs n (fun _=>0):=by
  apply List.ext_getElem?
  intro i
  by_cases h:i<n<;>simp[ivs,h]
theorem one_i {k:IntKind} {a:List Int}:(∀z:AV,z∈List.map (AV.i k) a→one z=true)=True:=by
  simp only[eq_iff_iff,iff_true,List.mem_map];rintro z ⟨x,_,rfl⟩;rfl
theorem one_ivs {n:Nat} {f:Nat→Int}:(∀z:AV,z∈ivs n f→one z=true)=True:=by
  simp only[eq_iff_iff,iff_true,ivs,List.mem_map];rintro z ⟨x,_,rfl⟩;rfl
theorem one_r {a:List (List Int)}:(∀z:AV,z∈List.map Go.Proofs.YtghmeeifjeafmaaGreat.ints a→one z=true)=True:=by
  simp only[eq_iff_iff,iff_true,List.mem_map];rintro z ⟨x,_,rfl⟩;rfl
theorem one_c {a:List (List (List Int))}:(∀z:AV,z∈List.map rows a→one z=true)=True:=by
  simp only[eq_iff_iff,iff_true,List.mem_map];rintro z ⟨x,_,rfl⟩;rfl
attribute [go_sem] upd_upd ivs_len ivs_get ivs_set one_i one_ivs one_r one_c
theorem tn1 (k:Nat):((k:Int)+1).toNat=k+1:=by omega
theorem tn2 (k q:Nat):((k:Int)+1+(q:Int)).toNat=k+1+q:=by omega
theorem tn3 (k q:Nat):((k:Int)+(q:Int)).toNat=k+q:=by omega
theorem tn4 (k q:Nat):(((k+1+q:Nat):Int)-(k:Int)-1).toNat=q:=by omega
attribute [go_sem] tn1 tn2 tn3 tn4
def FrI (nx nx':Nat) (H H':HP) (r:AV) (n:Nat) (f:Nat→Int):Prop:=∃id,r= .h id 0 n∧nx≤id∧id<nx'∧H'=upd H id (some (ivs n f))
theorem FrI.own {nx nx':Nat} {H H':HP} {r:AV} {n:Nat} {f:Nat→Int} (h:FrI nx nx' H H' r n f):∃ids,Own nx nx' H' r (ints (vec n f)) ids:=by
  obtain⟨id,rfl,h1,h2,rfl⟩:=h
  exact⟨_,Own.ints (by rw[upd_same,vec_map]) vec_len.symm h1 h2⟩
theorem FrI.aco {P:Program} {f:FuncId} {xs:List AV} {n:Nat} {g:Nat→Int} (h:∀nx,AC P f nx noH xs (fun nx' H' r=>FrI nx nx' noH H' r n g)):ACo P f xs (ints (vec n g)):=
  fun nx=>(h nx).mono fun _ _ _ h=>h.own
theorem upd_le {H H':HP} {id:Nat} {c:Option (List AV)} (h:∀i c,i≠id→H i=some c→H' i=some c) (h2:∀d,c=some d→H' id=some d):Le (upd H id c) H':=by
  intro i d hi
  by_cases e:i=id
  · subst e;rw[upd_same]at hi;exact h2 d hi
  rw[upd_ne _ _ e]at hi;exact h i d e hi
theorem spec_l01Own_ok (a:List Int) (ha:a.length≤1099511627776) (nx:Nat) (H:HP):AC Tryz.prog 104 nx H [ints a] (fun nx' H' r=>FrI nx nx' H H' r a.length (fun k=>a.getD k 0)):=by
 refine AC.introx envOk Tryz.func104 rfl (by kernel_rfl) Tryz.ntmps104 Tryz.results104 (fun hfr cX=>?_)
 refine AW.sr envOk (fun N hN=>?_);simp-dsimp-implicitDefEqProofs (disch:=omega)only[go_sem,ints];refine hN _ ?_;try clear hN N
 refine AW.sr envOk (fun N hN=>?_);simp-dsimp-implicitDefEqProofs (disch:=omega)only[go_sem,ints];refine hN _ ?_;try clear hN N
 refine AW.ret ?_;simp-dsimp-implicitDefEqProofs (disch:=omega)only[go_sem];refine⟨_,?_,nx+1+2,rfl,by omega,by omega,rfl⟩
 rw[map_ivs]
 intro i c hi
 have hlt:H i=some c→i<nx:=fun h=>by apply Classical.byContradiction;intro hn;rw[hfr i (by omega)]at h;cases h
 simp only[upd]at hi ⊢
 split at hi
 ·rename_i e;subst e;cases hi;repeat (first|rw[if_pos rfl]|rw[if_neg (by omega)])
 have:=hlt hi;repeat rw[if_neg (by omega)]
 exact hi
def CpI (nx nx':Nat) (H H':HP) (r:AV) (n:Nat) (f:Nat→Int):Prop:=FrI nx nx' H H' r n f∨(n=0∧r= .v 0 []∧H'=H)
theorem R.nl_v0 {L:LM} {w:World} {M:Nat→Prop} {u:Value} (h:R L w M .nl u):R L w M (.v 0 []) u:=by rw[h.nl_inv];exact .v0 _ _
theorem AC.nilv {P:Program} {f:FuncId} {nx:Nat} {H:HP} {xs:List AV} {Q:Nat→HP→AV→Prop} (h:AC P f nx H xs (fun nx' H' r=>Q nx' H' r∨(r= .nl∧Q nx' H' (.v 0 [])))):AC P f nx H xs Q:=by
  refine⟨h.1,fun L Av w us a b c=>(h.2 L Av w us a b c).mono ?_⟩
  rintro e w' ⟨u,r,L',nx',H',h1,h2,h3,h4,h5,h6,h7,h8⟩
  rcases h2 with h2|⟨rfl,h2⟩
  · exact⟨u,r,L',nx',H',h1,h2,h3,h4,h5,h6,h7,h8⟩
  exact⟨u,_,L',nx',H',h1,h2,h3,h4,h5,h6,h7,h8.nl_v0⟩
theorem slices_Clone_int64_int64_ok (a:List Int) (ha:a.length≤1099511627776) (nx:Nat) (H:HP):AC Tryz.prog 56 nx H [ints a] (fun nx' H' r=>CpI nx nx' H H' r a.length (fun k=>a.getD k 0)):=by
  refine AC.nilv ?_
  refine AC.introx envOk Tryz.func56 rfl (by kernel_rfl) Tryz.ntmps56 Tryz.results56 (fun hfr cX=>?_)
  refine AW.sr envOk (fun N hN=>?_);simp-dsimp-implicitDefEqProofs (disch:=omega)only[go_sem,ints];refine hN _ ?_;try clear hN N
  refine AW.seq (fun N1 hN1=>?_);refine AW.sr envOk (fun N hN=>?_);simp-dsimp-implicitDefEqProofs (disch:=omega)only[go_sem,ints];refine⟨⟨_,_,rfl,rfl⟩,⟨fun h0=>?_,?_⟩⟩
  · refine hN _ ?_
    try clear hN N
    refine AW.condT rfl ?_;refine AW.sr envOk (fun N hN=>?_);simp-dsimp-implicitDefEqProofs (disch:=omega)only[go_sem,];refine hN _ ?_;try clear hN N
    refine AW.ret ?_;simp-dsimp-implicitDefEqProofs (disch:=omega)only[go_sem];exact⟨H,Le.refl _,.inr (.inr ⟨h0,rfl,rfl⟩)⟩
  refine hN _ ?_;try clear hN N
  refine AW.condF rfl ?_;refine AW.skip ?_;simp only[thn,blk];refine hN1 _ ?_;try clear hN1 N1
  refine AW.sr envOk (fun N hN=>?_);simp-dsimp-implicitDefEqProofs (disch:=omega)only[go_sem,ints];refine hN _ ?_;try clear hN N
  refine AW.ret ?_;simp-dsimp-implicitDefEqProofs (disch:=omega)only[go_sem];refine⟨_,?_,.inl (.inl ⟨_,rfl,?_,?_,rfl⟩)⟩
  · rw[map_ivs]
    intro i c hi
    have hlt:H i=some c→i<nx:=fun h=>by apply Classical.byContradiction;intro hn;rw[hfr i (by omega)]at h;cases h
    simp only[upd]at hi ⊢
    split at hi
    · rename_i e;subst e;cases hi;repeat (first|rw[if_pos rfl]|rw[if_neg (by omega)])
    have:=hlt hi;repeat rw[if_neg (by omega)]
    exact hi
  · omega
  omega
open Nat (reduceAdd reduceSub reduceGT reduceEqDiff reduceMul)
theorem AW.loop1 {cX:Ctx} {P:Program} {c:Code} {s:St} {K:Exit→St→Prop} (h:AW cX P c s (thn K fun _=>False)):AW cX P (.loop c) s K:=
  AW.loopN (α:=Unit) (fun _=>s.t) (fun _=>s.H) (fun _ m=>m=s.nx) (fun _=>0) () rfl (by
    have:∀t:List AV,wks t t:=by
      intro t
      induction t with
      |nil=>exact trivial
      |cons x xs ih=>exact⟨.inr (.inl rfl),ih⟩
    exact this _) (fun _ _ h=>h) (fun _ m hm=>by
      subst hm
      exact h.mono (fun e s' h=>by cases e<;>simp only[thn]at h ⊢<;>first|exact h.elim|exact h))
open Nat (reduceAdd reduceSub reduceGT reduceEqDiff reduceMul)
def unitL (n k:Nat):List Int:=vec n (fun j=>if j=k then 1 else 0)
theorem unit_set {n k:Nat} (h:k<n):splice (ivs n (fun _=>0)) k [.i .i64 1]=ivs n (fun j=>if j=k then 1 else 0):=by
  rw[ivs_set h];rfl
theorem impl_unitVector_ok (n k:Nat) (hn:n≤1048576) (hk:k<n):ACo Tryz.prog 141 [.i .i64 n,.i .i64 k] (ints (unitL n k)):=by
 refine FrI.aco (fun nx=>?_)
 refine AC.introx envOk Tryz.func141 rfl (by kernel_rfl) Tryz.ntmps141 Tryz.results141 (fun hfr cX=>?_)
 refine AW.sr envOk (fun N hN=>?_);simp-dsimp-implicitDefEqProofs (disch:=omega)only[go_sem,];refine hN _ ?_;try clear hN N
 refine AW.sr envOk (fun N hN=>?_);simp-dsimp-implicitDefEqProofs (disch:=omega)only[go_sem,];refine hN _ ?_;try clear hN N
 refine AW.sr envOk (fun N hN=>?_);simp-dsimp-implicitDefEqProofs (disch:=omega)only[go_sem,];refine hN _ ?_;try clear hN N
 refine AW.sr envOk (fun N hN=>?_);simp-dsimp-implicitDefEqProofs (disch:=omega)only[go_sem,];refine hN _ ?_;try clear hN N
 refine AW.ret ?_;simp-dsimp-implicitDefEqProofs (disch:=omega)only[go_sem];refine⟨_,?_,_,rfl,?_,?_,rfl⟩
 ·rw[ivs_zero,unit_set hk]
  refine upd_le (fun i c h1 h2=>?_) (fun d hd=>by rw[upd_same];exact hd)
  cases h2
 ·omega
 omega
end Go.Proofs.YtghmeeifjeafmaaGreat
