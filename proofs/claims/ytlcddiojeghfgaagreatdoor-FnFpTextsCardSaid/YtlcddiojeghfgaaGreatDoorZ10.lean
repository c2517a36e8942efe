import Derived.Test.YtlcddiojeghfgaaGreatDoorZ09
set_option linter.unusedVariables false
set_option linter.unusedSimpArgs false
namespace Go.Proofs.YtlcddiojeghfgaaGreatDoor
open Nat (reduceAdd reduceSub reduceGT reduceEqDiff reduceMul)
def wordP (g:Int) (w:List Int):Prop:=w.length≤64∧∀j,j<w.length→w.getD j 0≠0∧-g≤w.getD j 0∧w.getD j 0≤g
def fpP (g:Int) (rs:List (List Int)):Prop:=(0≤g∧g≤4)∧rs.length≤12∧∀k,k<rs.length→wordP g (rs.getD k [])
def fp (g:Int) (rs:List (List Int)):AV:= .g [.i .i64 g,rows rs]
theorem spec_l06Word_ok (g:Int) (w:List Int) (hg:0≤g∧g≤1000) (hw:w.length≤1099511627776):ACp Tryz.prog 29 [.i .i64 g,ints w] (.b (tf (wordP g w))):=by
 refine ACp.intro' envOk Tryz.func29 rfl (by kernel_rfl) Tryz.ntmps29 Tryz.results29 (.b _) (fun nx cX=> ?_)
 refine AW.sr envOk (fun N hN=> ?_)
 simp-dsimp-implicitDefEqProofs (disch:=omega) only[go_sem,undef,ints,gd_i,w64]
 refine hN _ ?_
 try clear hN N
 refine AW.seq (fun N1 hN1=> ?_)
 refine AW.sr envOk (fun N hN=> ?_)
 simp-dsimp-implicitDefEqProofs (disch:=omega) only[go_sem,undef,ints,gd_i,w64]
 refine hN _ ?_
 try clear hN N
 refine AW.cond rfl (fun h1=> ?_) (fun h1=> ?_)
 ·try simp only[cn]at h1
  refine AW.sr envOk (fun N hN=> ?_)
  simp-dsimp-implicitDefEqProofs (disch:=omega) only[go_sem,undef,ints,gd_i,w64]
  refine hN _ ?_
  try clear hN N
  refine AW.ret ?_
  simp-dsimp-implicitDefEqProofs (disch:=omega) only[go_sem,undef]
  exact bt (tf_f (fun h=>by have:=h.1;omega)).symm
 ·try simp only[cn]at h1
  refine AW.skip ?_
  simp only[thn,blk]
  refine hN1 _ ?_
  try clear hN1 N1
  refine AW.seq (fun N2 hN2=> ?_)
  refine AW.sr envOk (fun N hN=> ?_)
  simp-dsimp-implicitDefEqProofs (disch:=omega) only[go_sem,undef,ints,gd_i,w64]
  refine hN _ ?_
  try clear hN N
  refine AW.block ?_
  refine AW.loopN (α:=Nat) (fun x=>sl 31 [(0,.i .i64 g),(1,ints w),(5,.i .i64 x)]) (fun _=>noH) (fun x m=>x≤w.length∧∀j,j<x→w.getD j 0≠0∧-g≤w.getD j 0∧w.getD j 0≤g) (fun x=>w.length-x) (0) ?_ ?_ (fun _ _ h=>h) ?_
  ·exact⟨by omega,by intro j hj;omega⟩
  ·simp(disch:=omega) [wks,wkA,sl,w64,ints,rows,cubes,ints,gd_i,w64]<;>omega
  ·skip
   rintro k m ⟨hk,hI⟩
   simp-dsimp-implicitDefEqProofs (disch:=omega) only[go_sem,undef]
   refine AW.seq (fun N3 hN3=> ?_)
   refine AW.sr envOk (fun N hN=> ?_)
   simp-dsimp-implicitDefEqProofs (disch:=omega) only[go_sem,undef,ints,gd_i,w64]
   refine hN _ ?_
   try clear hN N
   refine AW.cond rfl (fun h2=> ?_) (fun h2=> ?_)
   ·try simp only[cn]at h2
    refine AW.skip ?_
    simp only[thn,blk]
    refine hN3 _ ?_
    try clear hN3 N3
    refine AW.seq (fun N4 hN4=> ?_)
    refine AW.block ?_
    refine AW.sr envOk (fun N hN=> ?_)
    simp-dsimp-implicitDefEqProofs (disch:=omega) only[go_sem,undef,ints,gd_i,w64]
    refine gopB.mk' (fun h3=> ?_) (fun h3=> ?_)
    ·try simp only[cn]at h3
     try simp-dsimp-implicitDefEqProofs (disch:=omega) only[go_sem,undef,ints,gd_i,w64]
     refine AC.pure (.of (spec_l01In_ok _ _ _)) ?_
     try simp-dsimp-implicitDefEqProofs (disch:=omega) only[go_sem,undef,ints,gd_i,w64]
     refine hN _ ?_
     try clear hN N
     refine AW.cond rfl (fun h4=> ?_) (fun h4=> ?_)
     ·try simp only[cn]at h4
      refine AW.sr envOk (fun N hN=> ?_)
      simp-dsimp-implicitDefEqProofs (disch:=omega) only[go_sem,undef,ints,gd_i,w64]
      refine hN _ ?_
      try clear hN N
      refine AW.ret ?_
      simp-dsimp-implicitDefEqProofs (disch:=omega) only[go_sem,undef]
      exact bt (tf_f (fun h=>h4 (by have:=(h.2 k (by omega)).2;omega))).symm
     ·try simp only[cn]at h4
      refine AW.skip ?_
      simp only[thn,blk]
      refine hN4 _ ?_
      try clear hN4 N4
      refine AW.regionL envOk ?_
      simp-dsimp-implicitDefEqProofs (disch:=omega) only[go_sem,undef,ints,gd_i,w64]
      refine⟨k+1,?_,fun _ _ h=>h,?_,?_⟩
      ·simp(disch:=omega) [wks,wkA,sl,w64,ints,rows,cubes,ints,gd_i,w64]<;>omega
      ·refine⟨by omega,fun j hj=> ?_⟩
       by_cases e:j=k
       ·subst e;exact⟨h3,by omega⟩
       ·exact hI j (by omega)
      ·first|omega|(simp only;omega)
    ·try simp only[cn]at h3
     try simp-dsimp-implicitDefEqProofs (disch:=omega) only[go_sem,undef,ints,gd_i,w64]
     refine hN _ ?_
     try clear hN N
     refine AW.condT rfl ?_
     refine AW.sr envOk (fun N hN=> ?_)
     simp-dsimp-implicitDefEqProofs (disch:=omega) only[go_sem,undef,ints,gd_i,w64]
     refine hN _ ?_
     try clear hN N
     refine AW.ret ?_
     simp-dsimp-implicitDefEqProofs (disch:=omega) only[go_sem,undef]
     exact bt (tf_f (fun h=>(h.2 k (by omega)).1 h3)).symm
   ·try simp only[cn]at h2
    refine AW.exit ?_
    simp only[thn,blk,if_true]
    refine hN2 _ ?_
    try clear hN2 N2
    refine AW.sr envOk (fun N hN=> ?_)
    simp-dsimp-implicitDefEqProofs (disch:=omega) only[go_sem,undef,ints,gd_i,w64]
    refine hN _ ?_
    try clear hN N
    refine AW.ret ?_
    simp-dsimp-implicitDefEqProofs (disch:=omega) only[go_sem,undef]
    exact bt (tf_t ⟨by omega,fun j hj=>hI j (by omega)⟩).symm
theorem impl_wordFits_ok (g:Int) (w:List Int) (hg:0≤g∧g≤1000) (hw:w.length≤1099511627776):ACp Tryz.prog 33 [.i .i64 g,ints w] (.b (tf (wordP g w))):=by
 refine ACp.intro' envOk Tryz.func33 rfl (by kernel_rfl) Tryz.ntmps33 Tryz.results33 (.b _) (fun nx cX=> ?_)
 refine AW.sr envOk (fun N hN=> ?_)
 simp-dsimp-implicitDefEqProofs (disch:=omega) only[go_sem,undef,ints,gd_i,w64]
 refine hN _ ?_
 try clear hN N
 refine AW.seq (fun N1 hN1=> ?_)
 refine AW.sr envOk (fun N hN=> ?_)
 simp-dsimp-implicitDefEqProofs (disch:=omega) only[go_sem,undef,ints,gd_i,w64]
 refine hN _ ?_
 try clear hN N
 refine AW.block ?_
 refine AW.loopN (α:=Nat) (fun x=>sl 27 [(0,.i .i64 g),(1,ints w),(7,ints w),(8,.i .i64 w.length),(9,.i .i64 x)]) (fun _=>noH) (fun x m=>x≤w.length∧∀j,j<x→w.getD j 0≠0∧-g≤w.getD j 0∧w.getD j 0≤g) (fun x=>w.length-x) (0) ?_ ?_ (fun _ _ h=>h) ?_
 ·exact⟨by omega,by intro j hj;omega⟩
 ·simp(disch:=omega) [wks,wkA,sl,w64,ints,rows,cubes,ints,gd_i,w64]<;>omega
 ·skip
  rintro k m ⟨hk,hI⟩
  simp-dsimp-implicitDefEqProofs (disch:=omega) only[go_sem,undef]
  refine AW.sr envOk (fun N hN=> ?_)
  simp-dsimp-implicitDefEqProofs (disch:=omega) only[go_sem,undef,ints,gd_i,w64]
  refine hN _ ?_
  try clear hN N
  refine AW.seq (fun N2 hN2=> ?_)
  refine AW.cond rfl (fun h1=> ?_) (fun h1=> ?_)
  ·try simp only[cn]at h1
   refine AW.skip ?_
   simp only[thn,blk]
   refine hN2 _ ?_
   try clear hN2 N2
   refine AW.seq (fun N3 hN3=> ?_)
   refine AW.block ?_
   refine AW.sr envOk (fun N hN=> ?_)
   simp-dsimp-implicitDefEqProofs (disch:=omega) only[go_sem,undef,ints,gd_i,w64]
   refine hN _ ?_
   try clear hN N
   refine AW.sr envOk (fun N hN=> ?_)
   simp-dsimp-implicitDefEqProofs (disch:=omega) only[go_sem,undef,ints,gd_i,w64]
   refine gopB.mk' (fun h2=> ?_) (fun h2=> ?_)
   ·try simp only[cn]at h2
    try simp-dsimp-implicitDefEqProofs (disch:=omega) only[go_sem,undef,ints,gd_i,w64]
    refine AC.pure (.of (impl_inside_ok _ _ _)) ?_
    try simp-dsimp-implicitDefEqProofs (disch:=omega) only[go_sem,undef,ints,gd_i,w64]
    refine hN _ ?_
    try clear hN N
    refine AW.cond rfl (fun h3=> ?_) (fun h3=> ?_)
    ·try simp only[cn]at h3
     refine AW.sr envOk (fun N hN=> ?_)
     simp-dsimp-implicitDefEqProofs (disch:=omega) only[go_sem,undef,ints,gd_i,w64]
     refine hN _ ?_
     try clear hN N
     refine AW.ret ?_
     simp-dsimp-implicitDefEqProofs (disch:=omega) only[go_sem,undef]
     exact bt (tf_f (fun h=>h3 (by have:=(h.2 k (by omega)).2;omega))).symm
    ·try simp only[cn]at h3
     refine AW.skip ?_
     simp only[thn,blk]
     refine hN3 _ ?_
     try clear hN3 N3
     refine AW.regionL envOk ?_
     simp-dsimp-implicitDefEqProofs (disch:=omega) only[go_sem,undef,ints,gd_i,w64]
     refine⟨k+1,?_,fun _ _ h=>h,?_,?_⟩
     ·simp(disch:=omega) [wks,wkA,sl,w64,ints,rows,cubes,ints,gd_i,w64]<;>omega
     ·refine⟨by omega,fun j hj=> ?_⟩
      by_cases e:j=k
      ·subst e;exact⟨h2,by omega⟩
      ·exact hI j (by omega)
     ·first|omega|(simp only;omega)
   ·try simp only[cn]at h2
    try simp-dsimp-implicitDefEqProofs (disch:=omega) only[go_sem,undef,ints,gd_i,w64]
    refine hN _ ?_
    try clear hN N
    refine AW.condT rfl ?_
    refine AW.sr envOk (fun N hN=> ?_)
    simp-dsimp-implicitDefEqProofs (disch:=omega) only[go_sem,undef,ints,gd_i,w64]
    refine hN _ ?_
    try clear hN N
    refine AW.ret ?_
    simp-dsimp-implicitDefEqProofs (disch:=omega) only[go_sem,undef]
    exact bt (tf_f (fun h=>(h.2 k (by omega)).1 h2)).symm
  ·try simp only[cn]at h1
   refine AW.exit ?_
   simp only[thn,blk,if_true]
   refine hN1 _ ?_
   try clear hN1 N1
   refine AW.sr envOk (fun N hN=> ?_)
   simp-dsimp-implicitDefEqProofs (disch:=omega) only[go_sem,undef,ints,gd_i,w64]
   refine hN _ ?_
   try clear hN N
   refine AW.ret ?_
   simp-dsimp-implicitDefEqProofs (disch:=omega) only[go_sem,undef]
   refine bt ?_
   by_cases hc:w.length≤64
   ·rw[tf_t ⟨hc,fun j hj=>hI j (by omega)⟩];simp;omega
   ·rw[tf_f (fun h=>hc h.1)];simp;omega
theorem spec_IsFpGroup_ok (g:Int) (rs:List (List Int)) (hr:rowslen rs):ACp Tryz.prog 14 [fp g rs] (.b (tf (fpP g rs))):=by
 have hn:=hr.n
 refine ACp.intro' envOk Tryz.func14 rfl (by kernel_rfl) Tryz.ntmps14 Tryz.results14 (.b _) (fun nx cX=> ?_)
 refine AW.sr envOk (fun N hN=> ?_)
 simp-dsimp-implicitDefEqProofs (disch:=omega) only[go_sem,undef,fp,rows,gd_r,w64]
 refine hN _ ?_
 try clear hN N
 refine AW.seq (fun N1 hN1=> ?_)
 refine AW.sr envOk (fun N hN=> ?_)
 simp-dsimp-implicitDefEqProofs (disch:=omega) only[go_sem,undef,fp,rows,gd_r,w64]
 refine AC.pure (.of (spec_l01In_ok _ _ _)) ?_
 try simp-dsimp-implicitDefEqProofs (disch:=omega) only[go_sem,undef,fp,rows,gd_r,w64]
 refine gopB.mk' (fun h1=> ?_) (fun h1=> ?_)
 ·try simp only[cn]at h1
  try simp-dsimp-implicitDefEqProofs (disch:=omega) only[go_sem,undef,fp,rows,gd_r,w64]
  refine hN _ ?_
  try clear hN N
  refine AW.cond rfl (fun h2=> ?_) (fun h2=> ?_)
  ·try simp only[cn]at h2
   refine AW.sr envOk (fun N hN=> ?_)
   simp-dsimp-implicitDefEqProofs (disch:=omega) only[go_sem,undef,fp,rows,gd_r,w64]
   refine hN _ ?_
   try clear hN N
   refine AW.ret ?_
   simp-dsimp-implicitDefEqProofs (disch:=omega) only[go_sem,undef]
   exact bt (tf_f (fun h=>by have:=h.2.1;omega)).symm
  ·try simp only[cn]at h2
   refine AW.skip ?_
   simp only[thn,blk]
   refine hN1 _ ?_
   try clear hN1 N1
   refine AW.seq (fun N2 hN2=> ?_)
   refine AW.sr envOk (fun N hN=> ?_)
   simp-dsimp-implicitDefEqProofs (disch:=omega) only[go_sem,undef,fp,rows,gd_r,w64]
   refine hN _ ?_
   try clear hN N
   refine AW.block ?_
   refine AW.loopN (α:=Nat) (fun x=>sl 30 [(1,.q nx 0),(3,.i .i64 x)]) (fun _=>upd noH nx (some [.i .i64 g,rows rs])) (fun x m=>x≤rs.length∧(∀j,j<x→wordP g (rs.getD j []))) (fun x=>rs.length-x) (0) ?_ ?_ (fun _ _ h=>h) ?_
   ·exact⟨by omega,by intro j hj;omega⟩
   ·simp(disch:=omega) [wks,wkA,sl,w64,ints,rows,cubes,fp,rows,gd_r,w64]<;>omega
   ·skip
    rintro k m ⟨hk,hI⟩
    simp-dsimp-implicitDefEqProofs (disch:=omega) only[go_sem,undef]
    refine AW.seq (fun N3 hN3=> ?_)
    refine AW.sr envOk (fun N hN=> ?_)
    simp-dsimp-implicitDefEqProofs (disch:=omega) only[go_sem,undef,fp,rows,gd_r,w64]
    refine hN _ ?_
    try clear hN N
    refine AW.cond rfl (fun h3=> ?_) (fun h3=> ?_)
    ·try simp only[cn]at h3
     refine AW.skip ?_
     simp only[thn,blk]
     refine hN3 _ ?_
     try clear hN3 N3
     refine AW.seq (fun N4 hN4=> ?_)
     refine AW.block ?_
     refine AW.seq (fun N hN=> ?_)
     refine AW.drawL envOk (by kernel_rfl) 9 (by kernel_rfl) ?_
     simp-dsimp-implicitDefEqProofs (disch:=omega) only[hr_nil,hr_one,hr_if,List.take_succ_cons,List.take_zero,List.drop_succ_cons,List.drop_zero,List.take_nil,List.drop_nil,go_sem,undef,fp,rows,gd_r,w64]
     refine⟨_,.of (spec_l06Word_ok g (rs.getD k []) ⟨h1.1,by omega⟩ (by have:=hr.getD k;omega)),?_⟩
     try simp-dsimp-implicitDefEqProofs (disch:=omega) only[go_sem,undef,fp,rows,gd_r,w64]
     refine hN _ ?_
     try clear hN N
     refine AW.cond rfl (fun h4=> ?_) (fun h4=> ?_)
     ·try simp only[cn]at h4
      refine AW.sr envOk (fun N hN=> ?_)
      simp-dsimp-implicitDefEqProofs (disch:=omega) only[go_sem,undef,fp,rows,gd_r,w64]
      refine hN _ ?_
      try clear hN N
      refine AW.ret ?_
      simp-dsimp-implicitDefEqProofs (disch:=omega) only[go_sem,undef]
      exact bt (tf_f (fun h=>h4 (h.2.2 k (by omega)))).symm
     ·try simp only[cn]at h4
      refine AW.skip ?_
      simp only[thn,blk]
      refine hN4 _ ?_
      try clear hN4 N4
      refine AW.regionL envOk ?_
      simp-dsimp-implicitDefEqProofs (disch:=omega) only[go_sem,undef,fp,rows,gd_r,w64]
      refine⟨k+1,?_,fun _ _ h=>h,?_,?_⟩
      ·simp(disch:=omega) [wks,wkA,sl,w64,ints,rows,cubes,fp,rows,gd_r,w64]<;>omega
      ·refine⟨by omega,fun j hj=> ?_⟩
       by_cases e:j=k
       ·subst e;exact h4
       ·exact hI j (by omega)
      ·first|omega|(simp only;omega)
    ·try simp only[cn]at h3
     refine AW.exit ?_
     simp only[thn,blk,if_true]
     refine hN2 _ ?_
     try clear hN2 N2
     refine AW.sr envOk (fun N hN=> ?_)
     simp-dsimp-implicitDefEqProofs (disch:=omega) only[go_sem,undef,fp,rows,gd_r,w64]
     refine hN _ ?_
     try clear hN N
     refine AW.ret ?_
     simp-dsimp-implicitDefEqProofs (disch:=omega) only[go_sem,undef]
     exact bt (tf_t ⟨h1,by omega,fun j hj=>hI j (by omega)⟩).symm
 ·try simp only[cn]at h1
  try simp-dsimp-implicitDefEqProofs (disch:=omega) only[go_sem,undef,fp,rows,gd_r,w64]
  refine hN _ ?_
  try clear hN N
  refine AW.condT rfl ?_
  refine AW.sr envOk (fun N hN=> ?_)
  simp-dsimp-implicitDefEqProofs (disch:=omega) only[go_sem,undef,fp,rows,gd_r,w64]
  refine hN _ ?_
  try clear hN N
  refine AW.ret ?_
  simp-dsimp-implicitDefEqProofs (disch:=omega) only[go_sem,undef]
  exact bt (tf_f (fun h=>h1 h.1)).symm
theorem impl_gensFit_ok (k:Int):ACp Tryz.prog 32 [.i .i64 k] (.b (tf (0≤k∧k≤6))):=by
 refine ACp.intro' envOk Tryz.func32 rfl (by kernel_rfl) Tryz.ntmps32 Tryz.results32 (.b _) (fun nx cX=> ?_)
 refine AW.sr envOk (fun N hN=> ?_)
 simp-dsimp-implicitDefEqProofs (disch:=omega) only[go_sem,undef,]
 refine hN _ ?_
 try clear hN N
 refine AW.sr envOk (fun N hN=> ?_)
 simp-dsimp-implicitDefEqProofs (disch:=omega) only[go_sem,undef,]
 refine AC.pure (.of (impl_inside_ok _ _ _)) ?_
 try simp-dsimp-implicitDefEqProofs (disch:=omega) only[go_sem,undef,]
 refine hN _ ?_
 try clear hN N
 refine AW.ret ?_
 simp-dsimp-implicitDefEqProofs (disch:=omega) only[go_sem,undef]
 skip
def codeB:Bool→Int
  |true=>0
  |false=>1
noncomputable def codeW (g:Int) (rs:List (List Int)):Int:=codeB (tf (∀k,k<rs.length→wordP g (rs.getD k [])))
theorem impl_wordCode_ok (g:Int) (rs:List (List Int)) (hg:0≤g∧g≤6) (hr:rowslen rs):ACp Tryz.prog 17 [.i .i64 g,rows rs] (.i .i64 (codeW g rs)):=by
 have hn:=hr.n
 refine ACp.intro' envOk Tryz.func17 rfl (by kernel_rfl) Tryz.ntmps17 Tryz.results17 (.i _ _) (fun nx cX=> ?_)
 refine AW.sr envOk (fun N hN=> ?_)
 simp-dsimp-implicitDefEqProofs (disch:=omega) only[go_sem,undef,rows,gd_r,w64]
 refine hN _ ?_
 try clear hN N
 refine AW.seq (fun N1 hN1=> ?_)
 refine AW.sr envOk (fun N hN=> ?_)
 simp-dsimp-implicitDefEqProofs (disch:=omega) only[go_sem,undef,rows,gd_r,w64]
 refine AC.pure (.of (impl_gensFit_ok _)) ?_
 try simp-dsimp-implicitDefEqProofs (disch:=omega) only[go_sem,undef,rows,gd_r,w64]
 refine hN _ ?_
 try clear hN N
 refine AW.cond rfl (fun h1=> ?_) (fun h1=> ?_)
 ·try simp only[cn]at h1
  refine AW.sr envOk (fun N hN=> ?_)
  simp-dsimp-implicitDefEqProofs (disch:=omega) only[go_sem,undef,rows,gd_r,w64]
  refine hN _ ?_
  try clear hN N
  refine AW.ret ?_
  simp-dsimp-implicitDefEqProofs (disch:=omega) only[go_sem,undef]
  exact absurd hg (by omega)
 ·try simp only[cn]at h1
  refine AW.skip ?_
  simp only[thn,blk]
  refine hN1 _ ?_
  try clear hN1 N1
  refine AW.seq (fun N2 hN2=> ?_)
  refine AW.sr envOk (fun N hN=> ?_)
  simp-dsimp-implicitDefEqProofs (disch:=omega) only[go_sem,undef,rows,gd_r,w64]
  refine hN _ ?_
  try clear hN N
  refine AW.block ?_
  refine AW.loopN (α:=Nat) (fun x=>sl 21 [(0,.i .i64 g),(10,rows rs),(11,.i .i64 rs.length),(12,.i .i64 x)]) (fun _=>noH) (fun x m=>x≤rs.length∧(∀j,j<x→wordP g (rs.getD j []))) (fun x=>rs.length-x) (0) ?_ ?_ (fun _ _ h=>h) ?_
  ·exact⟨by omega,by intro j hj;omega⟩
  ·simp(disch:=omega) [wks,wkA,sl,w64,ints,rows,cubes,rows,gd_r,w64]<;>omega
  ·skip
   rintro k m ⟨hk,hI⟩
   simp-dsimp-implicitDefEqProofs (disch:=omega) only[go_sem,undef]
   refine AW.sr envOk (fun N hN=> ?_)
   simp-dsimp-implicitDefEqProofs (disch:=omega) only[go_sem,undef,rows,gd_r,w64]
   refine hN _ ?_
   try clear hN N
   refine AW.seq (fun N3 hN3=> ?_)
   refine AW.cond rfl (fun h2=> ?_) (fun h2=> ?_)
   ·try simp only[cn]at h2
    refine AW.skip ?_
    simp only[thn,blk]
    refine hN3 _ ?_
    try clear hN3 N3
    refine AW.seq (fun N4 hN4=> ?_)
    refine AW.block ?_
    refine AW.sr envOk (fun N hN=> ?_)
    simp-dsimp-implicitDefEqProofs (disch:=omega) only[go_sem,undef,rows,gd_r,w64]
    refine hN _ ?_
    try clear hN N
    refine AW.sr envOk (fun N hN=> ?_)
    simp-dsimp-implicitDefEqProofs (disch:=omega) only[go_sem,undef,rows,gd_r,w64]
    refine AC.pure (.of (impl_wordFits_ok g (rs.getD k []) ⟨hg.1,by omega⟩ (by have:=hr.getD k;omega))) ?_
    try simp-dsimp-implicitDefEqProofs (disch:=omega) only[go_sem,undef,rows,gd_r,w64]
    refine hN _ ?_
    try clear hN N
    refine AW.cond rfl (fun h3=> ?_) (fun h3=> ?_)
    ·try simp only[cn]at h3
     refine AW.sr envOk (fun N hN=> ?_)
     simp-dsimp-implicitDefEqProofs (disch:=omega) only[go_sem,undef,rows,gd_r,w64]
     refine hN _ ?_
     try clear hN N
     refine AW.ret ?_
     simp-dsimp-implicitDefEqProofs (disch:=omega) only[go_sem,undef]
     rw[codeW,tf_f (fun h=>h3 (h k (by omega)))];rfl
    ·try simp only[cn]at h3
     refine AW.skip ?_
     simp only[thn,blk]
     refine hN4 _ ?_
     try clear hN4 N4
     refine AW.regionL envOk ?_
     simp-dsimp-implicitDefEqProofs (disch:=omega) only[go_sem,undef,rows,gd_r,w64]
     refine⟨k+1,?_,fun _ _ h=>h,?_,?_⟩
     ·simp(disch:=omega) [wks,wkA,sl,w64,ints,rows,cubes,rows,gd_r,w64]<;>omega
     ·refine⟨by omega,fun j hj=> ?_⟩
      by_cases e:j=k
      ·subst e;exact h3
      ·exact hI j (by omega)
     ·first|omega|(simp only;omega)
   ·try simp only[cn]at h2
    refine AW.exit ?_
    simp only[thn,blk,if_true]
    refine hN2 _ ?_
    try clear hN2 N2
    refine AW.sr envOk (fun N hN=> ?_)
    simp-dsimp-implicitDefEqProofs (disch:=omega) only[go_sem,undef,rows,gd_r,w64]
    refine hN _ ?_
    try clear hN N
    refine AW.ret ?_
    simp-dsimp-implicitDefEqProofs (disch:=omega) only[go_sem,undef]
    rw[codeW,tf_t (fun j hj=>hI j (by omega))];rfl
theorem impl_IsFpGroup_ok (g:Int) (rs:List (List Int)) (hr:rowslen rs):ACp Tryz.prog 8 [fp g rs] (.b (tf (fpP g rs))):=by
 have hn:=hr.n
 refine ACp.intro' envOk Tryz.func8 rfl (by kernel_rfl) Tryz.ntmps8 Tryz.results8 (.b _) (fun nx cX=> ?_)
 refine AW.sr envOk (fun N hN=> ?_)
 simp-dsimp-implicitDefEqProofs (disch:=omega) only[go_sem,undef,fp,rows,gd_r,w64]
 refine hN _ ?_
 try clear hN N
 refine AW.seq (fun N1 hN1=> ?_)
 refine AW.sr envOk (fun N hN=> ?_)
 simp-dsimp-implicitDefEqProofs (disch:=omega) only[go_sem,undef,fp,rows,gd_r,w64]
 refine AC.pure (.of (impl_inside_ok _ _ _)) ?_
 try simp-dsimp-implicitDefEqProofs (disch:=omega) only[go_sem,undef,fp,rows,gd_r,w64]
 refine gopB.mk' (fun h1=> ?_) (fun h1=> ?_)
 ·try simp only[cn]at h1
  try simp-dsimp-implicitDefEqProofs (disch:=omega) only[go_sem,undef,fp,rows,gd_r,w64]
  refine hN _ ?_
  try clear hN N
  refine AW.cond rfl (fun h2=> ?_) (fun h2=> ?_)
  ·try simp only[cn]at h2
   refine AW.sr envOk (fun N hN=> ?_)
   simp-dsimp-implicitDefEqProofs (disch:=omega) only[go_sem,undef,fp,rows,gd_r,w64]
   refine hN _ ?_
   try clear hN N
   refine AW.ret ?_
   simp-dsimp-implicitDefEqProofs (disch:=omega) only[go_sem,undef]
   exact bt (tf_f (fun h=>by have:=h.2.1;omega)).symm
  ·try simp only[cn]at h2
   refine AW.skip ?_
   simp only[thn,blk]
   refine hN1 _ ?_
   try clear hN1 N1
   refine AW.sr envOk (fun N hN=> ?_)
   simp-dsimp-implicitDefEqProofs (disch:=omega) only[go_sem,undef,fp,rows,gd_r,w64]
   refine AC.pure (.of (impl_wordCode_ok g rs ⟨h1.1,by omega⟩ hr)) ?_
   try simp-dsimp-implicitDefEqProofs (disch:=omega) only[go_sem,undef,fp,rows,gd_r,w64]
   refine hN _ ?_
   try clear hN N
   refine AW.ret ?_
   simp-dsimp-implicitDefEqProofs (disch:=omega) only[go_sem,undef]
   refine bt ?_
   unfold codeW
   by_cases hc:∀k,k<rs.length→wordP g (rs.getD k [])
   ·rw[tf_t hc,tf_t ⟨h1,by omega,hc⟩];rfl
   ·rw[tf_f hc,tf_f (fun h=>hc h.2.2)];rfl
 ·try simp only[cn]at h1
  try simp-dsimp-implicitDefEqProofs (disch:=omega) only[go_sem,undef,fp,rows,gd_r,w64]
  refine hN _ ?_
  try clear hN N
  refine AW.condT rfl ?_
  refine AW.sr envOk (fun N hN=> ?_)
  simp-dsimp-implicitDefEqProofs (disch:=omega) only[go_sem,undef,fp,rows,gd_r,w64]
  refine hN _ ?_
  try clear hN N
  refine AW.ret ?_
  simp-dsimp-implicitDefEqProofs (disch:=omega) only[go_sem,undef]
  exact bt (tf_f (fun h=>h1 h.1)).symm
end Go.Proofs.YtlcddiojeghfgaaGreatDoor
