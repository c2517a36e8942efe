import Derived.Test.YtlcddiojeghfgaaDoorZ09
set_option linter.unusedVariables false
set_option linter.unusedSimpArgs false
namespace Go.Proofs.YtlcddiojeghfgaaDoor
open Nat (reduceAdd reduceSub reduceGT reduceEqDiff reduceMul)
def pr4 (p:Int):Prop:=p=2∨p=3∨p=5∨p=7
theorem spec_l01In_ok (n lo hi:Int):ACp Tryd.prog 22 [.i .i64 n,.i .i64 lo,.i .i64 hi] (.b (tf (lo≤n∧n≤hi))):=by
 refine ACp.intro' envOk Tryd.func22 rfl (by kernel_rfl) Tryd.ntmps22 Tryd.results22 (.b _) (fun nx cX=> ?_)
 refine AW.sr envOk (fun N hN=> ?_)
 simp-dsimp-implicitDefEqProofs (disch:=omega) only[go_sem,undef,]
 refine hN _ ?_
 try clear hN N
 refine AW.sr envOk (fun N hN=> ?_)
 simp-dsimp-implicitDefEqProofs (disch:=omega) only[go_sem,undef,]
 refine gopB.mk' (fun h1=> ?_) (fun h1=> ?_)
 ·try simp only[cn]at h1
  try simp-dsimp-implicitDefEqProofs (disch:=omega) only[go_sem,undef,]
  refine hN _ ?_
  try clear hN N
  refine AW.ret ?_
  simp-dsimp-implicitDefEqProofs (disch:=omega) only[go_sem,undef]
  exact bt (by simp_all[tf];try omega)
 ·try simp only[cn]at h1
  try simp-dsimp-implicitDefEqProofs (disch:=omega) only[go_sem,undef,]
  refine hN _ ?_
  try clear hN N
  refine AW.ret ?_
  simp-dsimp-implicitDefEqProofs (disch:=omega) only[go_sem,undef]
  exact bt (by simp_all[tf];try omega)
theorem impl_inside_ok (n lo hi:Int):ACp Tryd.prog 15 [.i .i64 n,.i .i64 lo,.i .i64 hi] (.b (tf (lo≤n∧n≤hi))):=by
 refine ACp.intro' envOk Tryd.func15 rfl (by kernel_rfl) Tryd.ntmps15 Tryd.results15 (.b _) (fun nx cX=> ?_)
 refine AW.sr envOk (fun N hN=> ?_)
 simp-dsimp-implicitDefEqProofs (disch:=omega) only[go_sem,undef,]
 refine hN _ ?_
 try clear hN N
 refine AW.sr envOk (fun N hN=> ?_)
 simp-dsimp-implicitDefEqProofs (disch:=omega) only[go_sem,undef,]
 refine gopB.mk' (fun h1=> ?_) (fun h1=> ?_)
 ·try simp only[cn]at h1
  try simp-dsimp-implicitDefEqProofs (disch:=omega) only[go_sem,undef,]
  refine hN _ ?_
  try clear hN N
  refine AW.ret ?_
  simp-dsimp-implicitDefEqProofs (disch:=omega) only[go_sem,undef]
  exact bt (by simp_all[tf];try omega)
 ·try simp only[cn]at h1
  try simp-dsimp-implicitDefEqProofs (disch:=omega) only[go_sem,undef,]
  refine hN _ ?_
  try clear hN N
  refine AW.ret ?_
  simp-dsimp-implicitDefEqProofs (disch:=omega) only[go_sem,undef]
  exact bt (by simp_all[tf];try omega)
def isEl (p:Int) (n:Int) (a:List Int):Prop:=a.length=n∧∀k,k<a.length→0≤a.getD k 0∧a.getD k 0≤p-1
def blank (a:List Int) (k:Nat):Prop:=∀j,j≤k→a.getD j 0=0
def zeros (a:List Int):Prop:=∀j,j<a.length→a.getD j 0=0
end Go.Proofs.YtlcddiojeghfgaaDoor
