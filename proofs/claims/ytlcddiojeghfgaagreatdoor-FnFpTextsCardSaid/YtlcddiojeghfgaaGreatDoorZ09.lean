import Derived.Test.YtlcddiojeghfgaaGreatDoorZ08
set_option linter.unusedVariables false
set_option linter.unusedSimpArgs false
namespace Go.Proofs.YtlcddiojeghfgaaGreatDoor
open Nat (reduceAdd reduceSub reduceGT reduceEqDiff reduceMul)
theorem take_ext {α:Type} (d:α) {a b:List α} (hl:a.length=b.length) {k:Nat} (hk:k<a.length) (h:a.take k=b.take k) (he:a.getD k d=b.getD k d):a.take (k+1)=b.take (k+1):=by
  rw[List.take_add_one,List.take_add_one,h]
  congr 1
  simp[hk,show k<b.length by omega]at he
  simp[hk,show k<b.length by omega,he]
open Nat (reduceAdd reduceSub reduceGT reduceEqDiff reduceMul)
def pr4 (p:Int):Prop:=p=2∨p=3∨p=5∨p=7
theorem spec_l01Prime_ok (p:Int):ACp Tryz.prog 76 [.i .i64 p] (.b (tf (pr4 p))):=by
 refine ACp.intro' envOk Tryz.func76 rfl (by kernel_rfl) Tryz.ntmps76 Tryz.results76 (.b _) (fun nx cX=> ?_)
 refine AW.sr envOk (fun N hN=> ?_)
 simp-dsimp-implicitDefEqProofs (disch:=omega) only[go_sem,undef,]
 refine hN _ ?_
 try clear hN N
 refine AW.sr envOk (fun N hN=> ?_)
 simp-dsimp-implicitDefEqProofs (disch:=omega) only[go_sem,undef,]
 refine gopB.mk' (fun h1=> ?_) (fun h1=> ?_)
 ·try simp only[cn]at h1
  try simp-dsimp-implicitDefEqProofs (disch:=omega) only[go_sem,undef,]
  refine gopB.mk' (fun h2=> ?_) (fun h2=> ?_)
  ·try simp only[cn]at h2
   try simp-dsimp-implicitDefEqProofs (disch:=omega) only[go_sem,undef,]
   refine gopB.mk' (fun h3=> ?_) (fun h3=> ?_)
   ·try simp only[cn]at h3
    try simp-dsimp-implicitDefEqProofs (disch:=omega) only[go_sem,undef,]
    refine hN _ ?_
    try clear hN N
    refine AW.ret ?_
    simp-dsimp-implicitDefEqProofs (disch:=omega) only[go_sem,undef]
    exact bt (by simp_all[pr4,tf];try rfl)
   ·try simp only[cn]at h3
    try simp-dsimp-implicitDefEqProofs (disch:=omega) only[go_sem,undef,]
    refine hN _ ?_
    try clear hN N
    refine AW.ret ?_
    simp-dsimp-implicitDefEqProofs (disch:=omega) only[go_sem,undef]
    exact bt (by simp_all[pr4,tf];try rfl)
  ·try simp only[cn]at h2
   try simp-dsimp-implicitDefEqProofs (disch:=omega) only[go_sem,undef,]
   refine hN _ ?_
   try clear hN N
   refine AW.ret ?_
   simp-dsimp-implicitDefEqProofs (disch:=omega) only[go_sem,undef]
   exact bt (by simp_all[pr4,tf];try rfl)
 ·try simp only[cn]at h1
  try simp-dsimp-implicitDefEqProofs (disch:=omega) only[go_sem,undef,]
  refine hN _ ?_
  try clear hN N
  refine AW.ret ?_
  simp-dsimp-implicitDefEqProofs (disch:=omega) only[go_sem,undef]
  exact bt (by simp_all[pr4,tf];try rfl)
theorem spec_l01In_ok (n lo hi:Int):ACp Tryz.prog 28 [.i .i64 n,.i .i64 lo,.i .i64 hi] (.b (tf (lo≤n∧n≤hi))):=by
 refine ACp.intro' envOk Tryz.func28 rfl (by kernel_rfl) Tryz.ntmps28 Tryz.results28 (.b _) (fun nx cX=> ?_)
 refine AW.sr envOk (fun N hN=> ?_)
 simp-dsimp-implicitDefEqProofs (disch:=omega) only[go_sem,undef,]
 refine hN _ ?_
 try clear hN N
 refine AW.sr envOk (fun N hN=> ?_)
 simp-dsimp-implicitDefEqProofs (disch:=omega) only[go_sem,undef,]
 refine gopB.mk' (fun h1=> ?_) (fun h1=> ?_)
 ·try simp only[cn]at h1
  try simp-dsimp-implicitDefEqProofs (disch:=omega) only[go_sem,undef,]
  refine hN _ ?_
  try clear hN N
  refine AW.ret ?_
  simp-dsimp-implicitDefEqProofs (disch:=omega) only[go_sem,undef]
  exact bt (by simp_all[tf];try omega)
 ·try simp only[cn]at h1
  try simp-dsimp-implicitDefEqProofs (disch:=omega) only[go_sem,undef,]
  refine hN _ ?_
  try clear hN N
  refine AW.ret ?_
  simp-dsimp-implicitDefEqProofs (disch:=omega) only[go_sem,undef]
  exact bt (by simp_all[tf];try omega)
theorem impl_inside_ok (n lo hi:Int):ACp Tryz.prog 16 [.i .i64 n,.i .i64 lo,.i .i64 hi] (.b (tf (lo≤n∧n≤hi))):=by
 refine ACp.intro' envOk Tryz.func16 rfl (by kernel_rfl) Tryz.ntmps16 Tryz.results16 (.b _) (fun nx cX=> ?_)
 refine AW.sr envOk (fun N hN=> ?_)
 simp-dsimp-implicitDefEqProofs (disch:=omega) only[go_sem,undef,]
 refine hN _ ?_
 try clear hN N
 refine AW.sr envOk (fun N hN=> ?_)
 simp-dsimp-implicitDefEqProofs (disch:=omega) only[go_sem,undef,]
 refine gopB.mk' (fun h1=> ?_) (fun h1=> ?_)
 ·try simp only[cn]at h1
  try simp-dsimp-implicitDefEqProofs (disch:=omega) only[go_sem,undef,]
  refine hN _ ?_
  try clear hN N
  refine AW.ret ?_
  simp-dsimp-implicitDefEqProofs (disch:=omega) only[go_sem,undef]
  exact bt (by simp_all[tf];try omega)
 ·try simp only[cn]at h1
  try simp-dsimp-implicitDefEqProofs (disch:=omega) only[go_sem,undef,]
  refine hN _ ?_
  try clear hN N
  refine AW.ret ?_
  simp-dsimp-implicitDefEqProofs (disch:=omega) only[go_sem,undef]
  exact bt (by simp_all[tf];try omega)
def isEl (p:Int) (n:Int) (a:List Int):Prop:=a.length=n∧∀k,k<a.length→0≤a.getD k 0∧a.getD k 0≤p-1
def blank (a:List Int) (k:Nat):Prop:=∀j,j≤k→a.getD j 0=0
def zeros (a:List Int):Prop:=∀j,j<a.length→a.getD j 0=0
theorem pr4_bd {p:Int} (h:pr4 p):2≤p∧p≤7:=by unfold pr4 at h;omega
open Nat (reduceAdd reduceSub reduceGT reduceEqDiff reduceMul)
structure ringlen (pw:List (List Int)) (br:List (List (List Int))):Prop where
  n:pw.length≤1048576
  v:∀i,(pw.getD i []).length≤1048576
  b:br.length≤1048576
  r:∀i,(br.getD i []).length≤1048576
  e:∀i j,((br.getD i []).getD j []).length≤1048576
def brP (p:Int) (n:Nat) (bi:List (List Int)) (i k:Nat):Prop:=isEl p n (bi.getD k [])∧∀j,j≤i+1+k→(bi.getD k []).getD j 0=0
def rowP (p:Int) (pw:List (List Int)) (br:List (List (List Int))) (i:Nat):Prop:=
  isEl p pw.length (pw.getD i [])∧blank (pw.getD i []) i∧(br.getD i []).length+1+i=pw.length∧∀k,k<(br.getD i []).length→brP p pw.length (br.getD i []) i k
def shapeP (p:Int) (pw:List (List Int)) (br:List (List (List Int))):Prop:=
  pr4 p∧pw.length≤6∧br.length=pw.length∧p^pw.length≤729∧∀i,i<pw.length→rowP p pw br i
theorem Vw.q' {H:HP} {id o:Nat} {cs:List AV} (h:H id=some cs):Vw H (.q id o) (.p o cs):=
  .q id o cs cs h rfl (fun k x y hx hy=>by rw[hx]at hy;cases hy;exact .refl _)
open Nat (reduceAdd reduceSub reduceGT reduceEqDiff reduceMul)
structure rowslen (a:List (List Int)):Prop where
  n:a.length≤1048576
  v:∀x∈a,x.length≤1048576
structure cubeslen (a:List (List (List Int))):Prop where
  n:a.length≤1048576
  v:∀x∈a,rowslen x
theorem getD_mem {α:Type} {P:α→Prop} {xs:List α} {d:α} (h:∀x∈xs,P x) (hd:P d) (i:Nat):P (xs.getD i d):=by
  by_cases hi:i<xs.length
  · exact h _ (by simp[hi])
  · simp[List.getD_eq_getElem?_getD,List.getElem?_eq_none (Nat.le_of_not_lt hi),hd]
theorem rowslen.nil:rowslen []:=⟨by simp,by simp⟩
theorem rowslen.getD {a:List (List Int)} (h:rowslen a) (i:Nat):(a.getD i []).length≤1048576:=getD_mem (P:=fun x:List Int=>x.length≤1048576) h.v (by simp) i
theorem ringlen.of {pw:List (List Int)} {br:List (List (List Int))} (h1:rowslen pw) (h2:cubeslen br):ringlen pw br:=
  ⟨h1.n,h1.getD,h2.n,fun i=>(getD_mem h2.v .nil i).n,fun i j=>(getD_mem h2.v .nil i).getD j⟩
end Go.Proofs.YtlcddiojeghfgaaGreatDoor
