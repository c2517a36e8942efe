import Derived.Test.YtnlfbimjcabgiaaGreatZ10
import Derived.Test.YtnlfbimjcabgiaaGreatZ23
set_option linter.unusedVariables false
set_option linter.unusedSimpArgs false
namespace Go.Proofs.YtnlfbimjcabgiaaGreat
open Nat (reduceAdd reduceSub reduceGT reduceEqDiff reduceMul)
theorem impl_consistentFrom_ok (os:List Int) (pw:List (List Int)) (cj:List (List (List Int))) (h:presOk os pw cj) (nx:Nat) (H:HP):AC Tryz.prog 60 nx H [prsP os pw cj] (fun _ H' r=>H=H'∧∃x:Nat,r= .i .i64 x∧(x=0↔Con (pc os pw cj) 0)):=by
 have hv:=h.val
 have hn6:=h.1.1
 refine AC.introx envOk Tryz.func60 rfl (by kernel_rfl) Tryz.ntmps60 Tryz.results60 (fun hfr=> ?_)
 refine AW.sr envOk (fun N hN=> ?_)
 simp-dsimp-implicitDefEqProofs (disch:=omega) only[go_sem,undef,prsP,ints,rows,cubes,w64]
 refine hN _ ?_
 try clear hN N
 refine AW.sr envOk (fun N hN=> ?_)
 simp-dsimp-implicitDefEqProofs (disch:=omega) only[go_sem,undef,prsP,ints,rows,cubes,w64]
 refine hN _ ?_
 try clear hN N
 refine AW.seq (fun N1 hN1=> ?_)
 refine AW.block ?_
 refine AW.loopN (α:=Nat) (fun x=>sl 22 [(0,prsP os pw cj),(3,.i .i64 x)]) (fun _=>H) (fun x m=>x≤os.length∧Con (pc os pw cj) x) (fun x=>x) (os.length) ?_ ?_ (fun _ _ h=>h) ?_
 ·exact⟨Nat.le_refl _,fun i h1 h2=>absurd h2 (by have:(pc os pw cj).n=os.length:=rfl;omega)⟩
 ·simp(disch:=omega) [wks,wkA,sl,prsP,ints,rows,cubes]
 ·skip
  rintro x m ⟨hx,hI⟩
  simp only[prsP]
  simp-dsimp-implicitDefEqProofs (disch:=omega) only[go_sem,undef]
  refine AW.seq (fun N2 hN2=> ?_)
  refine AW.sr envOk (fun N hN=> ?_)
  simp-dsimp-implicitDefEqProofs (disch:=omega) only[go_sem,undef,prsP,ints,rows,cubes,w64]
  refine gopB.mk' (fun h1=> ?_) (fun h1=> ?_)
  ·try simp only[cn]at h1
   obtain⟨i,rfl⟩:∃i,x=i+1:=⟨x-1,by omega⟩
   try simp-dsimp-implicitDefEqProofs (disch:=omega) only[go_sem,undef,prsP,ints,rows,cubes,w64]
   rw[show((i+1:Nat):Int)-1=i by omega]
   refine(impl_levelFault_ok os pw cj h i (by omega) hI _ _).mono2 ?_
   rintro m1 H1 r1 hm1 ⟨rfl,(⟨hC,rfl⟩|⟨hC,k,l,a,b,hk,rfl⟩)⟩
   ·skip
    try simp-dsimp-implicitDefEqProofs (disch:=omega) only[go_sem,undef,]
    refine hN _ ?_
    try clear hN N
    refine AW.cond rfl (fun h2=> ?_) (fun h2=> ?_)
    ·try simp only[cn]at h2
     refine AW.skip ?_
     simp only[thn,blk]
     refine hN2 _ ?_
     try clear hN2 N2
     refine AW.block ?_
     refine AW.regionL envOk ?_
     simp-dsimp-implicitDefEqProofs (disch:=omega) only[go_sem,undef,prsP,ints,rows,cubes,w64]
     refine⟨i,?_,fun _ _ h=>h,?_,?_⟩
     ·simp(disch:=omega) [wks,wkA,sl,prsP,w64,ints,rows,cubes]<;>omega
     ·refine⟨by first|omega|(simp only;omega)|(dsimp only;omega),fun t q1 q2=> ?_⟩
      by_cases e:t=i
      ·subst e;exact hC
      ·exact hI t (by omega) q2
     ·first|omega|(simp only;omega)
    ·try simp only[cn]at h2
     simp at h2
   ·skip
    try simp-dsimp-implicitDefEqProofs (disch:=omega) only[go_sem,undef,]
    refine hN _ ?_
    try clear hN N
    refine AW.cond rfl (fun h3=> ?_) (fun h3=> ?_)
    ·try simp only[cn]at h3
     exact absurd h3.1 hk
    ·try simp only[cn]at h3
     refine AW.exit ?_
     simp only[thn,blk,if_true]
     refine hN1 _ ?_
     try clear hN1 N1
     refine AW.sr envOk (fun N hN=> ?_)
     simp-dsimp-implicitDefEqProofs (disch:=omega) only[go_sem,undef,prsP,ints,rows,cubes,w64]
     refine hN _ ?_
     try clear hN N
     refine AW.ret ?_
     simp-dsimp-implicitDefEqProofs (disch:=omega) only[go_sem,undef]
     exact⟨_,Le.refl _,rfl,i+1,rfl,⟨fun q=>by omega,fun q=>absurd (q i (Nat.zero_le _) (show i<os.length by omega)) hC⟩⟩
  ·try simp only[cn]at h1
   try simp-dsimp-implicitDefEqProofs (disch:=omega) only[go_sem,undef,prsP,ints,rows,cubes,w64]
   refine hN _ ?_
   try clear hN N
   refine AW.condF rfl ?_
   refine AW.exit ?_
   simp only[thn,blk,if_true]
   refine hN1 _ ?_
   try clear hN1 N1
   refine AW.sr envOk (fun N hN=> ?_)
   simp-dsimp-implicitDefEqProofs (disch:=omega) only[go_sem,undef,prsP,ints,rows,cubes,w64]
   refine hN _ ?_
   try clear hN N
   refine AW.ret ?_
   simp-dsimp-implicitDefEqProofs (disch:=omega) only[go_sem,undef]
   obtain rfl:x=0:=by omega
   exact⟨_,Le.refl _,rfl,0,rfl,⟨fun _=>hI,fun _=>rfl⟩⟩
theorem impl_IsConsistent_ok (os:List Int) (pw:List (List Int)) (cj:List (List (List Int))) (hl:prlen os pw cj):ACp Tryz.prog 29 [prs os pw cj] (.b (tf (presOk os pw cj∧Con (pc os pw cj) 0))):=by
 refine ACp.intro' envOk Tryz.func29 rfl (by kernel_rfl) Tryz.ntmps29 Tryz.results29 (.b _) (fun nx=> ?_)
 refine AW.sr envOk (fun N hN=> ?_)
 simp-dsimp-implicitDefEqProofs (disch:=omega) only[go_sem,undef,prs,ints,rows,cubes]
 refine hN _ ?_
 try clear hN N
 refine AW.freezeQ 1 nx _ rfl (upd_same _ _ _) ?_
 simp-dsimp-implicitDefEqProofs (disch:=omega) only[go_sem,undef]
 refine AW.sr envOk (fun N hN=> ?_)
 simp-dsimp-implicitDefEqProofs (disch:=omega) only[go_sem,undef,prs,ints,rows,cubes]
 refine AC.pure (.of (impl_IsPresentation_ok os pw cj hl)) ?_
 try simp-dsimp-implicitDefEqProofs (disch:=omega) only[go_sem,undef,prs,ints,rows,cubes]
 refine gopB.mk' (fun h1=> ?_) (fun h1=> ?_)
 ·try simp only[cn]at h1
  try simp-dsimp-implicitDefEqProofs (disch:=omega) only[go_sem,undef,prs,ints,rows,cubes]
  refine(impl_consistentFrom_ok os pw cj h1 _ _).mono2 ?_
  rintro m1 H1 r1 hm1 ⟨rfl,x,rfl,hx⟩
  try simp-dsimp-implicitDefEqProofs (disch:=omega) only[go_sem,undef,prs,ints,rows,cubes]
  refine hN _ ?_
  try clear hN N
  refine AW.ret ?_
  simp-dsimp-implicitDefEqProofs (disch:=omega) only[go_sem,undef]
  exact bt (by by_cases q:x=0<;>simp[q,tf_t,tf_f,h1,←hx])
 ·try simp only[cn]at h1
  try simp-dsimp-implicitDefEqProofs (disch:=omega) only[go_sem,undef,prs,ints,rows,cubes]
  refine hN _ ?_
  try clear hN N
  refine AW.ret ?_
  simp-dsimp-implicitDefEqProofs (disch:=omega) only[go_sem,undef]
  all_goals exact bt (tf_f (fun q=>h1 q.1)).symm
def grpP (os:List Int) (pw:List (List Int)) (cj:List (List (List Int))):Prop:=presOk os pw cj∧Con (pc os pw cj) 0
def pgP (os:List Int) (pw:List (List Int)) (cj:List (List (List Int))):Prop:=(presOk os pw cj∧Con (pc os pw cj) 0)∧os.length≠0∧∀i,i<os.length→os.getD i 0=os.getD 0 0
theorem spec_IsPGroup_ok (os:List Int) (pw:List (List Int)) (cj:List (List (List Int))) (hl:prlen os pw cj):ACp Tryz.prog 68 [prs os pw cj] (.b (tf (pgP os pw cj))):=by
 have ho:=hl.o
 refine ACp.intro' envOk Tryz.func68 rfl (by kernel_rfl) Tryz.ntmps68 Tryz.results68 (.b _) (fun nx=> ?_)
 refine AW.sr envOk (fun N hN=> ?_)
 simp-dsimp-implicitDefEqProofs (disch:=omega) only[go_sem,undef,prs,ints,rows,cubes,gd_i,w64]
 refine hN _ ?_
 try clear hN N
 refine AW.freezeQ 1 nx _ rfl (upd_same _ _ _) ?_
 simp-dsimp-implicitDefEqProofs (disch:=omega) only[go_sem,undef]
 refine AW.seq (fun N1 hN1=> ?_)
 refine AW.sr envOk (fun N hN=> ?_)
 simp-dsimp-implicitDefEqProofs (disch:=omega) only[go_sem,undef,prs,ints,rows,cubes,gd_i,w64]
 refine AC.pure (.of (spec_l08Group_ok os pw cj hl)) ?_
 try simp-dsimp-implicitDefEqProofs (disch:=omega) only[go_sem,undef,prs,ints,rows,cubes,gd_i,w64]
 refine gopB.mk' (fun h1=> ?_) (fun h1=> ?_)
 ·try simp only[cn]at h1
  try simp-dsimp-implicitDefEqProofs (disch:=omega) only[go_sem,undef,prs,ints,rows,cubes,gd_i,w64]
  refine hN _ ?_
  try clear hN N
  refine AW.cond rfl (fun h2=> ?_) (fun h2=> ?_)
  ·try simp only[cn]at h2
   refine AW.sr envOk (fun N hN=> ?_)
   simp-dsimp-implicitDefEqProofs (disch:=omega) only[go_sem,undef,prs,ints,rows,cubes,gd_i,w64]
   refine hN _ ?_
   try clear hN N
   refine AW.ret ?_
   simp-dsimp-implicitDefEqProofs (disch:=omega) only[go_sem,undef]
   exact bt (tf_f (fun q=>q.2.1 (by omega))).symm
  ·try simp only[cn]at h2
   refine AW.skip ?_
   simp only[thn,blk]
   refine hN1 _ ?_
   try clear hN1 N1
   refine AW.seq (fun N2 hN2=> ?_)
   refine AW.sr envOk (fun N hN=> ?_)
   simp-dsimp-implicitDefEqProofs (disch:=omega) only[go_sem,undef,prs,ints,rows,cubes,gd_i,w64]
   refine hN _ ?_
   try clear hN N
   refine AW.block ?_
   refine AW.loopN (α:=Nat) (fun x=>sl 30 [(1,prsP os pw cj),(3,.i .i64 x)]) (fun _=>noH) (fun x m=>x≤os.length∧∀j,j<x→os.getD j 0=os.getD 0 0) (fun x=>os.length-x) (0) ?_ ?_ (Le.del (by simp[noH])) ?_
   ·exact⟨by omega,by intro j hj;omega⟩
   ·simp(disch:=omega) [wks,wkA,sl,prsP,ints,rows,cubes]
   ·skip
    rintro k m ⟨hk,hI⟩
    simp-dsimp-implicitDefEqProofs (disch:=omega) only[go_sem,undef]
    simp only[prsP]
    refine AW.seq (fun N3 hN3=> ?_)
    refine AW.sr envOk (fun N hN=> ?_)
    simp-dsimp-implicitDefEqProofs (disch:=omega) only[go_sem,undef,prs,ints,rows,cubes,gd_i,w64]
    refine hN _ ?_
    try clear hN N
    refine AW.cond rfl (fun h3=> ?_) (fun h3=> ?_)
    ·try simp only[cn]at h3
     refine AW.skip ?_
     simp only[thn,blk]
     refine hN3 _ ?_
     try clear hN3 N3
     refine AW.seq (fun N4 hN4=> ?_)
     refine AW.block ?_
     refine AW.seq (fun N hN=> ?_)
     refine AW.drawL envOk (by kernel_rfl) 10 (by kernel_rfl) ?_
     simp-dsimp-implicitDefEqProofs (disch:=omega) only[hr_nil,hr_one,hr_if,List.take_succ_cons,List.take_zero,List.drop_succ_cons,List.drop_zero,List.take_nil,List.drop_nil,go_sem,undef,prs,ints,rows,cubes,gd_i,w64]
     refine hN _ ?_
     try clear hN N
     refine AW.cond rfl (fun h4=> ?_) (fun h4=> ?_)
     ·try simp only[cn]at h4
      refine AW.sr envOk (fun N hN=> ?_)
      simp-dsimp-implicitDefEqProofs (disch:=omega) only[go_sem,undef,prs,ints,rows,cubes,gd_i,w64]
      refine hN _ ?_
      try clear hN N
      refine AW.ret ?_
      simp-dsimp-implicitDefEqProofs (disch:=omega) only[go_sem,undef]
      exact bt (tf_f (fun q=>h4 (q.2.2 k (by omega)))).symm
     ·try simp only[cn]at h4
      refine AW.skip ?_
      simp only[thn,blk]
      refine hN4 _ ?_
      try clear hN4 N4
      refine AW.regionL envOk ?_
      simp-dsimp-implicitDefEqProofs (disch:=omega) only[go_sem,undef,prs,ints,rows,cubes,gd_i,w64]
      refine⟨k+1,?_,fun _ _ h=>h,?_,?_⟩
      ·simp(disch:=omega) [wks,wkA,sl,prsP,w64,ints,rows,cubes]<;>omega
      ·refine⟨by omega,fun j hj=> ?_⟩
       by_cases e:j=k
       ·subst e;assumption
       ·exact hI j (by omega)
      ·first|omega|(simp only;omega)
    ·try simp only[cn]at h3
     refine AW.exit ?_
     simp only[thn,blk,if_true]
     refine hN2 _ ?_
     try clear hN2 N2
     refine AW.sr envOk (fun N hN=> ?_)
     simp-dsimp-implicitDefEqProofs (disch:=omega) only[go_sem,undef,prs,ints,rows,cubes,gd_i,w64]
     refine hN _ ?_
     try clear hN N
     refine AW.ret ?_
     simp-dsimp-implicitDefEqProofs (disch:=omega) only[go_sem,undef]
     exact bt (tf_t ⟨h1,by omega,fun j hj=>hI j (by omega)⟩).symm
 ·try simp only[cn]at h1
  try simp-dsimp-implicitDefEqProofs (disch:=omega) only[go_sem,undef,prs,ints,rows,cubes,gd_i,w64]
  refine hN _ ?_
  try clear hN N
  refine AW.condT rfl ?_
  refine AW.sr envOk (fun N hN=> ?_)
  simp-dsimp-implicitDefEqProofs (disch:=omega) only[go_sem,undef,prs,ints,rows,cubes,gd_i,w64]
  refine hN _ ?_
  try clear hN N
  refine AW.ret ?_
  simp-dsimp-implicitDefEqProofs (disch:=omega) only[go_sem,undef]
  exact bt (tf_f (fun q=>h1 q.1)).symm
theorem impl_isPGroup_ok (os:List Int) (pw:List (List Int)) (cj:List (List (List Int))) (hl:prlen os pw cj):ACp Tryz.prog 76 [prsP os pw cj] (.b (tf (pgP os pw cj))):=by
 have ho:=hl.o
 refine ACp.intro' envOk Tryz.func76 rfl (by kernel_rfl) Tryz.ntmps76 Tryz.results76 (.b _) (fun nx=> ?_)
 refine AW.sr envOk (fun N hN=> ?_)
 simp-dsimp-implicitDefEqProofs (disch:=omega) only[go_sem,undef,prsP,ints,rows,cubes,gd_i,w64]
 refine hN _ ?_
 try clear hN N
 refine AW.seq (fun N1 hN1=> ?_)
 refine AW.sr envOk (fun N hN=> ?_)
 simp-dsimp-implicitDefEqProofs (disch:=omega) only[go_sem,undef,prsP,ints,rows,cubes,gd_i,w64]
 refine AC.pure (.of (impl_IsConsistent_ok os pw cj hl)) ?_
 try simp-dsimp-implicitDefEqProofs (disch:=omega) only[go_sem,undef,prsP,ints,rows,cubes,gd_i,w64]
 refine gopB.mk' (fun h1=> ?_) (fun h1=> ?_)
 ·try simp only[cn]at h1
  try simp-dsimp-implicitDefEqProofs (disch:=omega) only[go_sem,undef,prsP,ints,rows,cubes,gd_i,w64]
  refine hN _ ?_
  try clear hN N
  refine AW.cond rfl (fun h2=> ?_) (fun h2=> ?_)
  ·try simp only[cn]at h2
   refine AW.sr envOk (fun N hN=> ?_)
   simp-dsimp-implicitDefEqProofs (disch:=omega) only[go_sem,undef,prsP,ints,rows,cubes,gd_i,w64]
   refine hN _ ?_
   try clear hN N
   refine AW.ret ?_
   simp-dsimp-implicitDefEqProofs (disch:=omega) only[go_sem,undef]
   exact bt (tf_f (fun q=>q.2.1 (by omega))).symm
  ·try simp only[cn]at h2
   refine AW.skip ?_
   simp only[thn,blk]
   refine hN1 _ ?_
   try clear hN1 N1
   refine AW.seq (fun N2 hN2=> ?_)
   refine AW.sr envOk (fun N hN=> ?_)
   simp-dsimp-implicitDefEqProofs (disch:=omega) only[go_sem,undef,prsP,ints,rows,cubes,gd_i,w64]
   refine hN _ ?_
   try clear hN N
   refine AW.block ?_
   refine AW.loopN (α:=Nat) (fun x=>sl 36 [(0,prsP os pw cj),(21,ints os),(22,.i .i64 os.length),(23,.i .i64 x)]) (fun _=>noH) (fun x m=>x≤os.length∧∀j,j<x→os.getD j 0=os.getD 0 0) (fun x=>os.length-x) (0) ?_ ?_ (fun _ _ h=>h) ?_
   ·exact⟨by omega,by intro j hj;omega⟩
   ·simp(disch:=omega) [wks,wkA,sl,w64,ints,rows,cubes,prsP,ints,rows,cubes,gd_i,w64]<;>omega
   ·skip
    rintro k m ⟨hk,hI⟩
    simp-dsimp-implicitDefEqProofs (disch:=omega) only[go_sem,undef]
    simp only[prsP]
    refine AW.sr envOk (fun N hN=> ?_)
    simp-dsimp-implicitDefEqProofs (disch:=omega) only[go_sem,undef,prsP,ints,rows,cubes,gd_i,w64]
    refine hN _ ?_
    try clear hN N
    refine AW.seq (fun N3 hN3=> ?_)
    refine AW.cond rfl (fun h3=> ?_) (fun h3=> ?_)
    ·try simp only[cn]at h3
     refine AW.skip ?_
     simp only[thn,blk]
     refine hN3 _ ?_
     try clear hN3 N3
     refine AW.seq (fun N4 hN4=> ?_)
     refine AW.block ?_
     refine AW.sr envOk (fun N hN=> ?_)
     simp-dsimp-implicitDefEqProofs (disch:=omega) only[go_sem,undef,prsP,ints,rows,cubes,gd_i,w64]
     refine hN _ ?_
     try clear hN N
     refine AW.sr envOk (fun N hN=> ?_)
     simp-dsimp-implicitDefEqProofs (disch:=omega) only[go_sem,undef,prsP,ints,rows,cubes,gd_i,w64]
     refine hN _ ?_
     try clear hN N
     refine AW.cond rfl (fun h4=> ?_) (fun h4=> ?_)
     ·try simp only[cn]at h4
      refine AW.sr envOk (fun N hN=> ?_)
      simp-dsimp-implicitDefEqProofs (disch:=omega) only[go_sem,undef,prsP,ints,rows,cubes,gd_i,w64]
      refine hN _ ?_
      try clear hN N
      refine AW.ret ?_
      simp-dsimp-implicitDefEqProofs (disch:=omega) only[go_sem,undef]
      exact bt (tf_f (fun q=>h4 (q.2.2 k (by omega)))).symm
     ·try simp only[cn]at h4
      refine AW.skip ?_
      simp only[thn,blk]
      refine hN4 _ ?_
      try clear hN4 N4
      refine AW.regionL envOk ?_
      simp-dsimp-implicitDefEqProofs (disch:=omega) only[go_sem,undef,prsP,ints,rows,cubes,gd_i,w64]
      refine⟨k+1,?_,fun _ _ h=>h,?_,?_⟩
      ·simp(disch:=omega) [wks,wkA,sl,w64,ints,rows,cubes,prsP,ints,rows,cubes,gd_i,w64]<;>omega
      ·refine⟨by omega,fun j hj=> ?_⟩
       by_cases e:j=k
       ·subst e;assumption
       ·exact hI j (by omega)
      ·first|omega|(simp only;omega)
    ·try simp only[cn]at h3
     refine AW.exit ?_
     simp only[thn,blk,if_true]
     refine hN2 _ ?_
     try clear hN2 N2
     refine AW.sr envOk (fun N hN=> ?_)
     simp-dsimp-implicitDefEqProofs (disch:=omega) only[go_sem,undef,prsP,ints,rows,cubes,gd_i,w64]
     refine hN _ ?_
     try clear hN N
     refine AW.ret ?_
     simp-dsimp-implicitDefEqProofs (disch:=omega) only[go_sem,undef]
     exact bt (tf_t ⟨h1,by omega,fun j hj=>hI j (by omega)⟩).symm
 ·try simp only[cn]at h1
  try simp-dsimp-implicitDefEqProofs (disch:=omega) only[go_sem,undef,prsP,ints,rows,cubes,gd_i,w64]
  refine hN _ ?_
  try clear hN N
  refine AW.condT rfl ?_
  refine AW.sr envOk (fun N hN=> ?_)
  simp-dsimp-implicitDefEqProofs (disch:=omega) only[go_sem,undef,prsP,ints,rows,cubes,gd_i,w64]
  refine hN _ ?_
  try clear hN N
  refine AW.ret ?_
  simp-dsimp-implicitDefEqProofs (disch:=omega) only[go_sem,undef]
  exact bt (tf_f (fun q=>h1 q.1)).symm
open Nat (reduceAdd reduceSub reduceGT reduceEqDiff reduceMul)
def wordP (g:Int) (w:List Int):Prop:=w.length≤64∧∀j,j<w.length→w.getD j 0≠0∧-g≤w.getD j 0∧w.getD j 0≤g
open Nat (reduceAdd reduceSub reduceGT reduceEqDiff reduceMul)
section
variable {P:Pc}
theorem gu_mul (hv:Val P) {j:Nat} (hj:j<P.n) (hg:Grp (T P (j+1)) (M P (j+1))) {y:V} (ty:T P (j+1) y) {a:Int} (h0:0≤a) (h1:a<P.o j):M P j (fset z0 j a) y=fset y j a:=by
  have hy:=ty.z j (by omega)
  rw[M_lt hj]
  unfold stp
  rw[hy,fset_at,if_neg (by omega),fset_fset,fset_z0,fset_id hy]
  show fset (M P (j+1) z0 y) j _=_
  rw[hg.l1 ty]
  congr 1;omega
theorem gu_gu (hv:Val P) {j:Nat} (hj:j<P.n) (hg:Grp (T P (j+1)) (M P (j+1))) {a:Int} (h0:0<a) (h1:a<P.o j):M P j (fset z0 j a) (fset z0 j (P.o j-a))=P.pw j:=by
  rw[M_lt hj]
  unfold stp
  rw[fset_at,fset_at,if_pos (by omega),fset_fset,fset_fset,fset_z0,itr_img0 hv,hg.l1 hg.e0,hg.r1 (hv.pw j hj)]
  exact fset_id (by rw[(hv.pw j hj).z j (by omega)];omega)
theorem inv_lev (hv:Val P) {j:Nat} (hj:j<P.n) (hg:Grp (T P j) (M P j)) (hg1:Grp (T P (j+1)) (M P (j+1))) {x:V} (hx:T P j x) (h0:x j≠0):
    inv P j x=M P j (M P j (inv P (j+1) (fset x j 0)) (fset z0 j (P.o j-x j))) (inv P (j+1) (P.pw j)):=by
  have hr:=hx.r j (Nat.le_refl _) hj
  have tz:=T.zero hv (j+1)
  obtain⟨t1,t2⟩:=inv_T hg1 hx.cut
  obtain⟨t3,t4⟩:=inv_T hg1 (hv.pw j hj)
  have u1:T P j (fset z0 j (x j)):=T.put hj tz hr.1 hr.2
  have u2:T P j (fset z0 j (P.o j-x j)):=T.put hj tz (by omega) (by omega)
  have m1:=t1.mono hv (show j≤j+1 by omega)
  have m3:=t3.mono hv (show j≤j+1 by omega)
  have mc:=hx.cut.mono hv (show j≤j+1 by omega)
  have mp:=(hv.pw j hj).mono hv (show j≤j+1 by omega)
  refine(inv_eq hg hx (hg.cl (hg.cl m1 u2) m3) ?_).symm
  have e1:M P j x (inv P (j+1) (fset x j 0))=fset z0 j (x j):=by
    have e2:x=M P j (fset z0 j (x j)) (fset x j 0):=by rw[gu_mul hv hj hg1 hx.cut hr.1 hr.2,fset_eta]
    have e3:M P j (M P j (fset z0 j (x j)) (fset x j 0)) (inv P (j+1) (fset x j 0))=fset z0 j (x j):=by
      rw[hg.ac u1 mc m1,M_sub1 hv hx.cut t1,t2,hg.r1 u1]
    rw[←e2]at e3;exact e3
  rw[←hg.ac hx (hg.cl m1 u2) m3,←hg.ac hx m1 u2,e1,gu_gu hv hj hg1 (by omega) hr.2,M_sub1 hv (hv.pw j hj) t3,t4]
theorem inv_lev0 (hv:Val P) {j:Nat} (hj:j<P.n) (hg:Grp (T P j) (M P j)) (hg1:Grp (T P (j+1)) (M P (j+1))) {x:V} (hx:T P j x) (h0:x j=0):inv P j x=inv P (j+1) (fset x j 0):=by
  obtain⟨t1,t2⟩:=inv_T hg1 hx.cut
  refine(inv_eq hg hx (t1.mono hv (by omega)) ?_).symm
  have e:fset x j 0=x:=fset_id h0
  have t0:=hx.cut
  rw[e]at t1 t2 t0 ⊢
  rw[M_sub1 hv t0 t1,t2]
end
theorem spec_l10From_step (os:List Int) (pw:List (List Int)) (cj:List (List (List Int))) (h:presOk os pw cj) (i:Nat) (hi:i<os.length) (hc:Con (pc os pw cj) i) (hF:∀a,T (pc os pw cj) (i+1) a→ACp Tryz.prog 144 [prs os pw cj,.i .i64 ((i:Int)+1),vi os.length a] (vi os.length (inv (pc os pw cj) (i+1) a))) (a:V) (ha:T (pc os pw cj) i a):ACp Tryz.prog 144 [prs os pw cj,.i .i64 i,vi os.length a] (vi os.length (inv (pc os pw cj) i a)):=by
 have hv:=h.val
 have hn6:=h.1.1
 have hpl:=h.1.2.1
 have hg:=con_grp hv hc
 have hg1:=con_grp hv (hc.mono (show i≤i+1 by omega))
 have hoi:=h.o7 hi
 have hoi':(pc os pw cj).o i=os.getD i 0:=rfl
 have hri:=ha.r i (Nat.le_refl _) hi
 have e2:AV.v (pw.getD i []).length (List.map (AV.i IntKind.i64) (pw.getD i []))=vi os.length ((pc os pw cj).pw i):=ints_vi (h.pwl hi)
 have t1:=(inv_T hg1 ha.cut).1.mono hv (show i≤i+1 by omega)
 have t3:=(inv_T hg1 (hv.pw i hi)).1.mono hv (show i≤i+1 by omega)
 refine ACp.intro' envOk Tryz.func144 rfl (by kernel_rfl) Tryz.ntmps144 Tryz.results144 (vi_nr _ _) (fun nx=> ?_)
 refine AW.sr envOk (fun N hN=> ?_)
 simp-dsimp-implicitDefEqProofs (disch:=omega) only[go_sem,undef,prs,prsP,ints,rows,cubes,gd_i,gd_r,w64,vi]
 refine hN _ ?_
 try clear hN N
 refine AW.freezeQ 3 nx _ rfl (upd_same _ _ _) ?_
 simp-dsimp-implicitDefEqProofs (disch:=omega) only[go_sem,undef]
 refine AW.sr envOk (fun N hN=> ?_)
 simp-dsimp-implicitDefEqProofs (disch:=omega) only[go_sem,undef,prs,prsP,ints,rows,cubes,gd_i,gd_r,w64,vi]
 refine hN _ ?_
 try clear hN N
 refine AW.seq (fun N1 hN1=> ?_)
 refine AW.sr envOk (fun N hN=> ?_)
 simp-dsimp-implicitDefEqProofs (disch:=omega) only[go_sem,undef,prs,prsP,ints,rows,cubes,gd_i,gd_r,w64,vi]
 refine hN _ ?_
 try clear hN N
 refine AW.cond rfl (fun h1=> ?_) (fun h1=> ?_)
 ·try simp only[cn]at h1
  exfalso;omega
 ·try simp only[cn]at h1
  refine AW.skip ?_
  simp only[thn,blk]
  refine hN1 _ ?_
  try clear hN1 N1
  refine AW.sr envOk (fun N hN=> ?_)
  simp-dsimp-implicitDefEqProofs (disch:=omega) only[go_sem,undef,prs,prsP,ints,rows,cubes,gd_i,gd_r,w64,vi]
  refine(spec_l01Own_f a (by omega) _ _).mono ?_
  rintro nx1 H1 r1 ⟨id1,rfl,g1,g2,rfl⟩
  try simp-dsimp-implicitDefEqProofs (disch:=omega) only[go_sem,undef,prs,prsP,ints,rows,cubes,gd_i,gd_r,w64,vi]
  refine hN _ ?_
  try clear hN N
  refine AW.sr envOk (fun N hN=> ?_)
  simp-dsimp-implicitDefEqProofs (disch:=omega) only[go_sem,undef,prs,prsP,ints,rows,cubes,gd_i,gd_r,w64,vi]
  refine hN _ ?_
  try clear hN N
  refine AW.freeze 8 id1 os.length (ivs os.length (fset a i 0)) rfl (by simp(disch:=omega) only[upd_same,upd_ne]) ivs_len ?_
  simp-dsimp-implicitDefEqProofs (disch:=omega) only[go_sem,undef]
  refine AW.sr envOk (fun N hN=> ?_)
  simp-dsimp-implicitDefEqProofs (disch:=omega) only[go_sem,undef,prs,prsP,ints,rows,cubes,gd_i,gd_r,w64,vi]
  refine AC.pure (.of (hF _ ha.cut)) ?_
  try simp-dsimp-implicitDefEqProofs (disch:=omega) only[go_sem,undef,prs,prsP,ints,rows,cubes,gd_i,gd_r,w64,vi]
  refine hN _ ?_
  try clear hN N
  refine AW.seq (fun N2 hN2=> ?_)
  refine AW.sr envOk (fun N hN=> ?_)
  simp-dsimp-implicitDefEqProofs (disch:=omega) only[go_sem,undef,prs,prsP,ints,rows,cubes,gd_i,gd_r,w64,vi]
  refine hN _ ?_
  try clear hN N
  refine AW.cond rfl (fun h2=> ?_) (fun h2=> ?_)
  ·try simp only[cn]at h2
   refine AW.sr envOk (fun N hN=> ?_)
   simp-dsimp-implicitDefEqProofs (disch:=omega) only[go_sem,undef,prs,prsP,ints,rows,cubes,gd_i,gd_r,w64,vi]
   refine hN _ ?_
   try clear hN N
   refine AW.ret ?_
   simp-dsimp-implicitDefEqProofs (disch:=omega) only[go_sem,undef]
   rw[inv_lev0 hv hi hg hg1 ha h2];rfl
  ·try simp only[cn]at h2
   have hai:0<a i:=by omega
   have tu:T (pc os pw cj) i (fset z0 i ((pc os pw cj).o i-a i)):=T.put hi (T.zero hv _) (by omega) (by omega)
   refine AW.skip ?_
   simp only[thn,blk]
   refine hN2 _ ?_
   try clear hN2 N2
   refine AW.sr envOk (fun N hN=> ?_)
   simp-dsimp-implicitDefEqProofs (disch:=omega) only[go_sem,undef,prs,prsP,ints,rows,cubes,gd_i,gd_r,w64,vi]
   refine hN _ ?_
   try clear hN N
   rw[ivs_zero]
   refine AW.seq (fun N hN=> ?_)
   refine AW.drawL envOk (by kernel_rfl) 13 (by kernel_rfl) ?_
   simp-dsimp-implicitDefEqProofs (disch:=omega) only[hr_nil,hr_one,hr_if,List.take_succ_cons,List.take_zero,List.drop_succ_cons,List.drop_zero,List.take_nil,List.drop_nil,go_sem,undef,prs,prsP,ints,rows,cubes,gd_i,gd_r,w64,vi]
   refine hN _ ?_
   try clear hN N
   refine AW.freeze 10 (nx1+4+6+5+1) os.length (ivs os.length (fset z0 i ((pc os pw cj).o i-a i))) rfl (upd_same _ _ _) ivs_len ?_
   simp-dsimp-implicitDefEqProofs (disch:=omega) only[go_sem,undef]
   refine AW.seq (fun N hN=> ?_)
   refine AW.drawL envOk (by kernel_rfl) 18 (by kernel_rfl) ?_
   simp-dsimp-implicitDefEqProofs (disch:=omega) only[hr_nil,hr_one,hr_if,List.take_succ_cons,List.take_zero,List.drop_succ_cons,List.drop_zero,List.take_nil,List.drop_nil,go_sem,undef,prs,prsP,ints,rows,cubes,gd_i,gd_r,w64,vi]
   refine⟨_,.of (spec_l08At_ok os pw cj h i (by omega) _ _ t1 tu),?_⟩
   try simp-dsimp-implicitDefEqProofs (disch:=omega) only[go_sem,undef,prs,prsP,ints,rows,cubes,gd_i,gd_r,w64,vi]
   rw[e2]
   refine⟨_,.of (hF _ (hv.pw i hi)),?_⟩
   try simp-dsimp-implicitDefEqProofs (disch:=omega) only[go_sem,undef,prs,prsP,ints,rows,cubes,gd_i,gd_r,w64,vi]
   refine⟨_,.of (spec_l08At_ok os pw cj h i (by omega) _ _ (hg.cl t1 tu) t3),?_⟩
   try simp-dsimp-implicitDefEqProofs (disch:=omega) only[go_sem,undef,prs,prsP,ints,rows,cubes,gd_i,gd_r,w64,vi]
   refine hN _ ?_
   try clear hN N
   refine AW.ret ?_
   simp-dsimp-implicitDefEqProofs (disch:=omega) only[go_sem,undef]
   rw[inv_lev hv hi hg hg1 ha (by omega)];rfl
theorem spec_l10From_end (os:List Int) (pw:List (List Int)) (cj:List (List (List Int))) (h:presOk os pw cj) (a:V) (ha:T (pc os pw cj) os.length a):ACp Tryz.prog 144 [prs os pw cj,.i .i64 os.length,vi os.length a] (vi os.length (inv (pc os pw cj) os.length a)):=by
 have hn6:=h.1.1
 have hg:=con_grp h.val (show Con (pc os pw cj) os.length from fun i h1 h2=>absurd h2 (by have:(pc os pw cj).n=os.length:=rfl;omega))
 refine ACp.introV envOk Tryz.func144 rfl (by kernel_rfl) Tryz.ntmps144 Tryz.results144 ((vi_nr _ _)) (fun nx=> ?_)
 refine AW.sr envOk (fun N hN=> ?_)
 simp-dsimp-implicitDefEqProofs (disch:=omega) only[go_sem,undef,prs,prsP,ints,rows,cubes,w64,vi]
 refine hN _ ?_
 try clear hN N
 refine AW.freezeQ 3 nx _ rfl (upd_same _ _ _) ?_
 simp-dsimp-implicitDefEqProofs (disch:=omega) only[go_sem,undef]
 refine AW.sr envOk (fun N hN=> ?_)
 simp-dsimp-implicitDefEqProofs (disch:=omega) only[go_sem,undef,prs,prsP,ints,rows,cubes,w64,vi]
 refine hN _ ?_
 try clear hN N
 refine AW.seq (fun N1 hN1=> ?_)
 refine AW.sr envOk (fun N hN=> ?_)
 simp-dsimp-implicitDefEqProofs (disch:=omega) only[go_sem,undef,prs,prsP,ints,rows,cubes,w64,vi]
 refine hN _ ?_
 try clear hN N
 refine AW.cond rfl (fun h1=> ?_) (fun h1=> ?_)
 ·try simp only[cn]at h1
  refine AW.sr envOk (fun N hN=> ?_)
  simp-dsimp-implicitDefEqProofs (disch:=omega) only[go_sem,undef,prs,prsP,ints,rows,cubes,w64,vi]
  refine hN _ ?_
  try clear hN N
  refine AW.ret ?_
  simp-dsimp-implicitDefEqProofs (disch:=omega) only[go_sem,undef]
  refine Vw.vi ?_
  rw[upd_same,ivs_zero,←inv_eq hg ha hg.e0 (M_ge (P:=pc os pw cj) (Nat.le_refl _) _ _)];rfl
 ·try simp only[cn]at h1
  simp at h1
theorem spec_l10From_ok (os:List Int) (pw:List (List Int)) (cj:List (List (List Int))) (h:presOk os pw cj):∀(i:Nat),i≤os.length→Con (pc os pw cj) i→∀a,T (pc os pw cj) i a→
    ACp Tryz.prog 144 [prs os pw cj,.i .i64 i,vi os.length a] (vi os.length (inv (pc os pw cj) i a)):=by
  have key:∀d i,i+d=os.length→Con (pc os pw cj) i→∀a,T (pc os pw cj) i a→
      ACp Tryz.prog 144 [prs os pw cj,.i .i64 i,vi os.length a] (vi os.length (inv (pc os pw cj) i a)):=by
    intro d
    induction d with
    |zero=>intro i hi _ a ha;obtain rfl:i=os.length:=hi;exact spec_l10From_end os pw cj h a ha
    | succ d ih=>
      intro i hi hc a ha
      refine spec_l10From_step os pw cj h i (by omega) hc (fun a ha=> ?_) a ha
      have:=ih (i+1) (by omega) (hc.mono (by omega)) a ha
      rwa [Int.natCast_add]at this
  exact fun i hi=>key (os.length-i) i (by omega)
section
variable (os:List Int) (pw:List (List Int)) (cj:List (List (List Int)))
theorem spec_l10Inv_ok (h:presOk os pw cj) (hc:Con (pc os pw cj) 0) (a:V) (ha:T (pc os pw cj) 0 a):ACp Tryz.prog 118 [prs os pw cj,vi os.length a] (vi os.length (inv (pc os pw cj) 0 a)):=by
 refine ACp.intro' envOk Tryz.func118 rfl (by kernel_rfl) Tryz.ntmps118 Tryz.results118 (vi_nr _ _) (fun nx=> ?_)
 refine AW.sr envOk (fun N hN=> ?_)
 simp-dsimp-implicitDefEqProofs (disch:=omega) only[go_sem,undef,prs]
 refine hN _ ?_
 try clear hN N
 refine AW.freezeQ 2 nx _ rfl (upd_same _ _ _) ?_
 simp-dsimp-implicitDefEqProofs (disch:=omega) only[go_sem,undef]
 refine AW.sr envOk (fun N hN=> ?_)
 simp-dsimp-implicitDefEqProofs (disch:=omega) only[go_sem,undef,prs]
 refine AC.pure (.of (spec_l10From_ok os pw cj h 0 (Nat.zero_le _) hc a ha)) ?_
 try simp-dsimp-implicitDefEqProofs (disch:=omega) only[go_sem,undef,prs]
 refine hN _ ?_
 try clear hN N
 refine AW.ret ?_
 simp-dsimp-implicitDefEqProofs (disch:=omega) only[go_sem,undef]
 try rfl
theorem spec_l08Mul_ok (h:presOk os pw cj) (a b:V) (ha:T (pc os pw cj) 0 a) (hb:T (pc os pw cj) 0 b):ACp Tryz.prog 119 [prs os pw cj,vi os.length a,vi os.length b] (vi os.length (M (pc os pw cj) 0 a b)):=by
 refine ACp.intro' envOk Tryz.func119 rfl (by kernel_rfl) Tryz.ntmps119 Tryz.results119 (vi_nr _ _) (fun nx=> ?_)
 refine AW.sr envOk (fun N hN=> ?_)
 simp-dsimp-implicitDefEqProofs (disch:=omega) only[go_sem,undef,prs]
 refine hN _ ?_
 try clear hN N
 refine AW.freezeQ 3 nx _ rfl (upd_same _ _ _) ?_
 simp-dsimp-implicitDefEqProofs (disch:=omega) only[go_sem,undef]
 refine AW.sr envOk (fun N hN=> ?_)
 simp-dsimp-implicitDefEqProofs (disch:=omega) only[go_sem,undef,prs]
 refine AC.pure (.of (spec_l08At_ok os pw cj h 0 (Nat.zero_le _) a b ha hb)) ?_
 try simp-dsimp-implicitDefEqProofs (disch:=omega) only[go_sem,undef,prs]
 refine hN _ ?_
 try clear hN N
 refine AW.ret ?_
 simp-dsimp-implicitDefEqProofs (disch:=omega) only[go_sem,undef]
 try rfl
end
def exsP (os:List Int) (xs:List (List Int)):Prop:=∀k,k<xs.length→exP os (xs.getD k [])
end Go.Proofs.YtnlfbimjcabgiaaGreat
