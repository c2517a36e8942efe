import Derived.Test.YtnlfbimjcabgiaaGreatZ09
set_option linter.unusedVariables false
set_option linter.unusedSimpArgs false
namespace Go.Proofs.YtnlfbimjcabgiaaGreat
open Nat (reduceAdd reduceSub reduceGT reduceEqDiff reduceMul)
def pr4 (p:Int):Prop:=p=2∨p=3∨p=5∨p=7
theorem spec_l01Prime_ok (p:Int):ACp Tryz.prog 127 [.i .i64 p] (.b (tf (pr4 p))):=by
 refine ACp.intro' envOk Tryz.func127 rfl (by kernel_rfl) Tryz.ntmps127 Tryz.results127 (.b _) (fun nx=> ?_)
 refine AW.sr envOk (fun N hN=> ?_)
 simp-dsimp-implicitDefEqProofs (disch:=omega) only[go_sem,undef,]
 refine hN _ ?_
 try clear hN N
 refine AW.sr envOk (fun N hN=> ?_)
 simp-dsimp-implicitDefEqProofs (disch:=omega) only[go_sem,undef,]
 refine gopB.mk' (fun h1=> ?_) (fun h1=> ?_)
 ·try simp only[cn]at h1
  try simp-dsimp-implicitDefEqProofs (disch:=omega) only[go_sem,undef,]
  refine gopB.mk' (fun h2=> ?_) (fun h2=> ?_)
  ·try simp only[cn]at h2
   try simp-dsimp-implicitDefEqProofs (disch:=omega) only[go_sem,undef,]
   refine gopB.mk' (fun h3=> ?_) (fun h3=> ?_)
   ·try simp only[cn]at h3
    try simp-dsimp-implicitDefEqProofs (disch:=omega) only[go_sem,undef,]
    refine hN _ ?_
    try clear hN N
    refine AW.ret ?_
    simp-dsimp-implicitDefEqProofs (disch:=omega) only[go_sem,undef]
    exact bt (by simp_all[pr4,tf];try rfl)
   ·try simp only[cn]at h3
    try simp-dsimp-implicitDefEqProofs (disch:=omega) only[go_sem,undef,]
    refine hN _ ?_
    try clear hN N
    refine AW.ret ?_
    simp-dsimp-implicitDefEqProofs (disch:=omega) only[go_sem,undef]
    exact bt (by simp_all[pr4,tf];try rfl)
  ·try simp only[cn]at h2
   try simp-dsimp-implicitDefEqProofs (disch:=omega) only[go_sem,undef,]
   refine hN _ ?_
   try clear hN N
   refine AW.ret ?_
   simp-dsimp-implicitDefEqProofs (disch:=omega) only[go_sem,undef]
   exact bt (by simp_all[pr4,tf];try rfl)
 ·try simp only[cn]at h1
  try simp-dsimp-implicitDefEqProofs (disch:=omega) only[go_sem,undef,]
  refine hN _ ?_
  try clear hN N
  refine AW.ret ?_
  simp-dsimp-implicitDefEqProofs (disch:=omega) only[go_sem,undef]
  exact bt (by simp_all[pr4,tf];try rfl)
theorem impl_IsGroupPrime_ok (p:Int):ACp Tryz.prog 101 [.i .i64 p] (.b (tf (pr4 p))):=by
 refine ACp.intro' envOk Tryz.func101 rfl (by kernel_rfl) Tryz.ntmps101 Tryz.results101 (.b _) (fun nx=> ?_)
 refine AW.sr envOk (fun N hN=> ?_)
 simp-dsimp-implicitDefEqProofs (disch:=omega) only[go_sem,undef,]
 refine hN _ ?_
 try clear hN N
 refine AW.sr envOk (fun N hN=> ?_)
 simp-dsimp-implicitDefEqProofs (disch:=omega) only[go_sem,undef,]
 refine gopB.mk' (fun h1=> ?_) (fun h1=> ?_)
 ·try simp only[cn]at h1
  try simp-dsimp-implicitDefEqProofs (disch:=omega) only[go_sem,undef,]
  refine gopB.mk' (fun h2=> ?_) (fun h2=> ?_)
  ·try simp only[cn]at h2
   try simp-dsimp-implicitDefEqProofs (disch:=omega) only[go_sem,undef,]
   refine gopB.mk' (fun h3=> ?_) (fun h3=> ?_)
   ·try simp only[cn]at h3
    try simp-dsimp-implicitDefEqProofs (disch:=omega) only[go_sem,undef,]
    refine hN _ ?_
    try clear hN N
    refine AW.ret ?_
    simp-dsimp-implicitDefEqProofs (disch:=omega) only[go_sem,undef]
    exact bt (by simp_all[pr4,tf];try rfl)
   ·try simp only[cn]at h3
    try simp-dsimp-implicitDefEqProofs (disch:=omega) only[go_sem,undef,]
    refine hN _ ?_
    try clear hN N
    refine AW.ret ?_
    simp-dsimp-implicitDefEqProofs (disch:=omega) only[go_sem,undef]
    exact bt (by simp_all[pr4,tf];try rfl)
  ·try simp only[cn]at h2
   try simp-dsimp-implicitDefEqProofs (disch:=omega) only[go_sem,undef,]
   refine hN _ ?_
   try clear hN N
   refine AW.ret ?_
   simp-dsimp-implicitDefEqProofs (disch:=omega) only[go_sem,undef]
   exact bt (by simp_all[pr4,tf];try rfl)
 ·try simp only[cn]at h1
  try simp-dsimp-implicitDefEqProofs (disch:=omega) only[go_sem,undef,]
  refine hN _ ?_
  try clear hN N
  refine AW.ret ?_
  simp-dsimp-implicitDefEqProofs (disch:=omega) only[go_sem,undef]
  exact bt (by simp_all[pr4,tf];try rfl)
theorem spec_l01In_ok (n lo hi:Int):ACp Tryz.prog 86 [.i .i64 n,.i .i64 lo,.i .i64 hi] (.b (tf (lo≤n∧n≤hi))):=by
 refine ACp.intro' envOk Tryz.func86 rfl (by kernel_rfl) Tryz.ntmps86 Tryz.results86 (.b _) (fun nx=> ?_)
 refine AW.sr envOk (fun N hN=> ?_)
 simp-dsimp-implicitDefEqProofs (disch:=omega) only[go_sem,undef,]
 refine hN _ ?_
 try clear hN N
 refine AW.sr envOk (fun N hN=> ?_)
 simp-dsimp-implicitDefEqProofs (disch:=omega) only[go_sem,undef,]
 refine gopB.mk' (fun h1=> ?_) (fun h1=> ?_)
 ·try simp only[cn]at h1
  try simp-dsimp-implicitDefEqProofs (disch:=omega) only[go_sem,undef,]
  refine hN _ ?_
  try clear hN N
  refine AW.ret ?_
  simp-dsimp-implicitDefEqProofs (disch:=omega) only[go_sem,undef]
  exact bt (by simp_all[tf];try omega)
 ·try simp only[cn]at h1
  try simp-dsimp-implicitDefEqProofs (disch:=omega) only[go_sem,undef,]
  refine hN _ ?_
  try clear hN N
  refine AW.ret ?_
  simp-dsimp-implicitDefEqProofs (disch:=omega) only[go_sem,undef]
  exact bt (by simp_all[tf];try omega)
theorem impl_inside_ok (n lo hi:Int):ACp Tryz.prog 57 [.i .i64 n,.i .i64 lo,.i .i64 hi] (.b (tf (lo≤n∧n≤hi))):=by
 refine ACp.intro' envOk Tryz.func57 rfl (by kernel_rfl) Tryz.ntmps57 Tryz.results57 (.b _) (fun nx=> ?_)
 refine AW.sr envOk (fun N hN=> ?_)
 simp-dsimp-implicitDefEqProofs (disch:=omega) only[go_sem,undef,]
 refine hN _ ?_
 try clear hN N
 refine AW.sr envOk (fun N hN=> ?_)
 simp-dsimp-implicitDefEqProofs (disch:=omega) only[go_sem,undef,]
 refine gopB.mk' (fun h1=> ?_) (fun h1=> ?_)
 ·try simp only[cn]at h1
  try simp-dsimp-implicitDefEqProofs (disch:=omega) only[go_sem,undef,]
  refine hN _ ?_
  try clear hN N
  refine AW.ret ?_
  simp-dsimp-implicitDefEqProofs (disch:=omega) only[go_sem,undef]
  exact bt (by simp_all[tf];try omega)
 ·try simp only[cn]at h1
  try simp-dsimp-implicitDefEqProofs (disch:=omega) only[go_sem,undef,]
  refine hN _ ?_
  try clear hN N
  refine AW.ret ?_
  simp-dsimp-implicitDefEqProofs (disch:=omega) only[go_sem,undef]
  exact bt (by simp_all[tf];try omega)
def isEl (p:Int) (n:Int) (a:List Int):Prop:=a.length=n∧∀k,k<a.length→0≤a.getD k 0∧a.getD k 0≤p-1
def blank (a:List Int) (k:Nat):Prop:=∀j,j≤k→a.getD j 0=0
def zeros (a:List Int):Prop:=∀j,j<a.length→a.getD j 0=0
theorem impl_isZero_ok (a:List Int) (ha':a.length≤1099511627776):ACp Tryz.prog 63 [ints a] (.b (tf (zeros a))):=by
 refine ACp.intro' envOk Tryz.func63 rfl (by kernel_rfl) Tryz.ntmps63 Tryz.results63 (.b _) (fun nx=> ?_)
 refine AW.sr envOk (fun N hN=> ?_)
 simp-dsimp-implicitDefEqProofs (disch:=omega) only[go_sem,undef,ints,gd_i,w64]
 refine hN _ ?_
 try clear hN N
 refine AW.seq (fun N1 hN1=> ?_)
 refine AW.sr envOk (fun N hN=> ?_)
 simp-dsimp-implicitDefEqProofs (disch:=omega) only[go_sem,undef,ints,gd_i,w64]
 refine hN _ ?_
 try clear hN N
 refine AW.block ?_
 refine AW.loopN (α:=Nat) (fun x=>sl 14 [(5,ints a),(6,.i .i64 a.length),(7,.i .i64 x)]) (fun _=>noH) (fun x m=>x≤a.length∧∀j,j<x→a.getD j 0=0) (fun x=>a.length-x) (0) ?_ ?_ (fun _ _ h=>h) ?_
 ·exact⟨by omega,by intro j hj;omega⟩
 ·simp(disch:=omega) [wks,wkA,sl,w64,ints,rows,cubes,ints,gd_i,w64]<;>omega
 ·skip
  rintro k m ⟨hk,hI⟩
  simp-dsimp-implicitDefEqProofs (disch:=omega) only[go_sem,undef]
  refine AW.sr envOk (fun N hN=> ?_)
  simp-dsimp-implicitDefEqProofs (disch:=omega) only[go_sem,undef,ints,gd_i,w64]
  refine hN _ ?_
  try clear hN N
  refine AW.seq (fun N2 hN2=> ?_)
  refine AW.cond rfl (fun h1=> ?_) (fun h1=> ?_)
  ·try simp only[cn]at h1
   refine AW.skip ?_
   simp only[thn,blk]
   refine hN2 _ ?_
   try clear hN2 N2
   refine AW.seq (fun N3 hN3=> ?_)
   refine AW.block ?_
   refine AW.sr envOk (fun N hN=> ?_)
   simp-dsimp-implicitDefEqProofs (disch:=omega) only[go_sem,undef,ints,gd_i,w64]
   refine hN _ ?_
   try clear hN N
   refine AW.sr envOk (fun N hN=> ?_)
   simp-dsimp-implicitDefEqProofs (disch:=omega) only[go_sem,undef,ints,gd_i,w64]
   refine hN _ ?_
   try clear hN N
   refine AW.cond rfl (fun h2=> ?_) (fun h2=> ?_)
   ·try simp only[cn]at h2
    refine AW.sr envOk (fun N hN=> ?_)
    simp-dsimp-implicitDefEqProofs (disch:=omega) only[go_sem,undef,ints,gd_i,w64]
    refine hN _ ?_
    try clear hN N
    refine AW.ret ?_
    simp-dsimp-implicitDefEqProofs (disch:=omega) only[go_sem,undef]
    exact bt (tf_f (fun h=>h2 (h k (by omega)))).symm
   ·try simp only[cn]at h2
    refine AW.skip ?_
    simp only[thn,blk]
    refine hN3 _ ?_
    try clear hN3 N3
    refine AW.regionL envOk ?_
    simp-dsimp-implicitDefEqProofs (disch:=omega) only[go_sem,undef,ints,gd_i,w64]
    refine⟨k+1,?_,fun _ _ h=>h,?_,?_⟩
    ·simp(disch:=omega) [wks,wkA,sl,w64,ints,rows,cubes,ints,gd_i,w64]<;>omega
    ·refine⟨by omega,fun j hj=> ?_⟩
     by_cases e:j=k
     ·subst e;exact h2
     ·exact hI j (by omega)
    ·first|omega|(simp only;omega)
  ·try simp only[cn]at h1
   refine AW.exit ?_
   simp only[thn,blk,if_true]
   refine hN1 _ ?_
   try clear hN1 N1
   refine AW.sr envOk (fun N hN=> ?_)
   simp-dsimp-implicitDefEqProofs (disch:=omega) only[go_sem,undef,ints,gd_i,w64]
   refine hN _ ?_
   try clear hN N
   refine AW.ret ?_
   simp-dsimp-implicitDefEqProofs (disch:=omega) only[go_sem,undef]
   exact bt (tf_t (fun j hj=>hI j (by omega))).symm
theorem pr4_bd {p:Int} (h:pr4 p):2≤p∧p≤7:=by unfold pr4 at h;omega
open Nat (reduceAdd reduceSub reduceGT reduceEqDiff reduceMul)
structure ringlen (pw:List (List Int)) (br:List (List (List Int))):Prop where
  n:pw.length≤1048576
  v:∀i,(pw.getD i []).length≤1048576
  b:br.length≤1048576
  r:∀i,(br.getD i []).length≤1048576
  e:∀i j,((br.getD i []).getD j []).length≤1048576
def brP (p:Int) (n:Nat) (bi:List (List Int)) (i k:Nat):Prop:=isEl p n (bi.getD k [])∧∀j,j≤i+1+k→(bi.getD k []).getD j 0=0
def rowP (p:Int) (pw:List (List Int)) (br:List (List (List Int))) (i:Nat):Prop:=
  isEl p pw.length (pw.getD i [])∧blank (pw.getD i []) i∧(br.getD i []).length+1+i=pw.length∧∀k,k<(br.getD i []).length→brP p pw.length (br.getD i []) i k
def shapeP (p:Int) (pw:List (List Int)) (br:List (List (List Int))):Prop:=
  pr4 p∧pw.length≤6∧br.length=pw.length∧p^pw.length≤729∧∀i,i<pw.length→rowP p pw br i
open Nat (reduceAdd reduceSub reduceGT reduceEqDiff reduceMul)
theorem laws_szInt64SSS_ok (a:List (List (List Int))) (left:Int) (hl0:0≤left) (hl2:left≤1048576) (ha:cubesok a):ACp Tryz.prog 22 [cubes a,.i .i64 left] (.i .i64 (szSSS a left)):=by
 obtain⟨ha1,ha2⟩:=ha
 have hres:szSSS a left=if left-a.length<0 then-1 else szGo szSS a (left-a.length):=rfl
 have hle:∀(x:List (List Int)) (l:Int),0≤l→-1≤szSS x l∧szSS x l≤l:=fun x l h=>szL_le (fun x l h=>szS_le x l h) x l h
 refine ACp.intro' envOk Tryz.func22 rfl (by kernel_rfl) Tryz.ntmps22 Tryz.results22 (.i _ _) (fun nx=> ?_)
 refine AW.sr envOk (fun N hN=> ?_)
 simp-dsimp-implicitDefEqProofs (disch:=omega) only[go_sem,undef,rows,cubes,gd_i,gd_r,gd_c,w64]
 refine hN _ ?_
 try clear hN N
 refine AW.sr envOk (fun N hN=> ?_)
 simp-dsimp-implicitDefEqProofs (disch:=omega) only[go_sem,undef,rows,cubes,gd_i,gd_r,gd_c,w64]
 refine hN _ ?_
 try clear hN N
 refine AW.seq (fun N1 hN1=> ?_)
 refine AW.sr envOk (fun N hN=> ?_)
 simp-dsimp-implicitDefEqProofs (disch:=omega) only[go_sem,undef,rows,cubes,gd_i,gd_r,gd_c,w64]
 refine hN _ ?_
 try clear hN N
 refine AW.cond rfl (fun h1=> ?_) (fun h1=> ?_)
 ·try simp only[cn]at h1
  refine AW.sr envOk (fun N hN=> ?_)
  simp-dsimp-implicitDefEqProofs (disch:=omega) only[go_sem,undef,rows,cubes,gd_i,gd_r,gd_c,w64]
  refine hN _ ?_
  try clear hN N
  refine AW.ret ?_
  simp-dsimp-implicitDefEqProofs (disch:=omega) only[go_sem,undef]
  rw[hres,if_pos (by omega)]
 ·try simp only[cn]at h1
  rw[if_neg (by omega)]at hres
  refine AW.skip ?_
  simp only[thn,blk]
  refine hN1 _ ?_
  try clear hN1 N1
  refine AW.seq (fun N2 hN2=> ?_)
  refine AW.sr envOk (fun N hN=> ?_)
  simp-dsimp-implicitDefEqProofs (disch:=omega) only[go_sem,undef,rows,cubes,gd_i,gd_r,gd_c,w64]
  refine hN _ ?_
  try clear hN N
  refine AW.block ?_
  refine AW.loopN (α:=Nat×Int) (fun x=>sl 27 [(0,cubes a),(1,.i .i64 x.2),(5,.i .i64 x.1)]) (fun _=>noH) (fun x m=>x.1≤a.length∧0≤x.2∧x.2≤1048576∧szGo szSS (a.drop x.1) x.2=szSSS a left) (fun x=>a.length-x.1) ((0,left-a.length)) ?_ ?_ (fun _ _ h=>h) ?_
  ·exact⟨by simp,by simp only;omega,by simp only;omega,by simp[hres]⟩
  ·simp(disch:=omega) [wks,wkA,sl,w64,ints,rows,cubes,rows,cubes,gd_i,gd_r,gd_c,w64]<;>omega
  ·skip
   rintro⟨k,l⟩ m ⟨hk,hl0,hl1,hl⟩
   simp only at hk hl0 hl1 hl
   simp-dsimp-implicitDefEqProofs (disch:=omega) only[go_sem,undef]
   refine AW.seq (fun N3 hN3=> ?_)
   refine AW.sr envOk (fun N hN=> ?_)
   simp-dsimp-implicitDefEqProofs (disch:=omega) only[go_sem,undef,rows,cubes,gd_i,gd_r,gd_c,w64]
   refine hN _ ?_
   try clear hN N
   refine AW.cond rfl (fun h2=> ?_) (fun h2=> ?_)
   ·try simp only[cn]at h2
    have hk':k<a.length:=by omega
    have hx:rowsok (a.getD k []):=ha2 _ (by simp[hk'])
    rw[szGo_step [] hk']at hl
    have hb:=hle (a.getD k []) l hl0
    refine AW.skip ?_
    simp only[thn,blk]
    refine hN3 _ ?_
    try clear hN3 N3
    refine AW.seq (fun N4 hN4=> ?_)
    refine AW.block ?_
    refine AW.sr envOk (fun N hN=> ?_)
    simp-dsimp-implicitDefEqProofs (disch:=omega) only[go_sem,undef,rows,cubes,gd_i,gd_r,gd_c,w64]
    refine AC.pure (.of (szSS_ok (a.getD k []) l hl0 (by omega) hx)) ?_
    try simp-dsimp-implicitDefEqProofs (disch:=omega) only[go_sem,undef,rows,cubes,gd_i,gd_r,gd_c,w64]
    refine hN _ ?_
    try clear hN N
    refine AW.sr envOk (fun N hN=> ?_)
    simp-dsimp-implicitDefEqProofs (disch:=omega) only[go_sem,undef,rows,cubes,gd_i,gd_r,gd_c,w64]
    refine hN _ ?_
    try clear hN N
    refine AW.cond rfl (fun h3=> ?_) (fun h3=> ?_)
    ·try simp only[cn]at h3
     rw[if_pos h3]at hl
     refine AW.sr envOk (fun N hN=> ?_)
     simp-dsimp-implicitDefEqProofs (disch:=omega) only[go_sem,undef,rows,cubes,gd_i,gd_r,gd_c,w64]
     refine hN _ ?_
     try clear hN N
     refine AW.ret ?_
     simp-dsimp-implicitDefEqProofs (disch:=omega) only[go_sem,undef]
     rw[hl]
    ·try simp only[cn]at h3
     rw[if_neg (by omega)]at hl
     refine AW.skip ?_
     simp only[thn,blk]
     refine hN4 _ ?_
     try clear hN4 N4
     refine AW.regionL envOk ?_
     simp-dsimp-implicitDefEqProofs (disch:=omega) only[go_sem,undef,rows,cubes,gd_i,gd_r,gd_c,w64]
     refine⟨(k+1,szSS (a.getD k []) l),?_,fun _ _ h=>h,?_,?_⟩
     ·simp(disch:=omega) [wks,wkA,sl,w64,ints,rows,cubes,rows,cubes,gd_i,gd_r,gd_c,w64]<;>omega
     ·exact⟨by simp only;omega,by simp only;omega,by simp only;omega,hl⟩
     ·first|omega|(simp only;omega)
   ·try simp only[cn]at h2
    refine AW.exit ?_
    simp only[thn,blk,if_true]
    refine hN2 _ ?_
    try clear hN2 N2
    refine AW.sr envOk (fun N hN=> ?_)
    simp-dsimp-implicitDefEqProofs (disch:=omega) only[go_sem,undef,rows,cubes,gd_i,gd_r,gd_c,w64]
    refine hN _ ?_
    try clear hN N
    refine AW.ret ?_
    simp-dsimp-implicitDefEqProofs (disch:=omega) only[go_sem,undef]
    rw[List.drop_eq_nil_of_le (by omega)]at hl
    rw[←hl];rfl
def szR (pw:List (List Int)) (br:List (List (List Int))) (left:Int):Int:=if szSS pw left<0 then-1 else szSSS br (szSS pw left)
theorem szSS_le (x:List (List Int)) (l:Int) (h:0≤l): -1≤szSS x l∧szSS x l≤l:=szL_le (fun x l h=>szS_le x l h) x l h
theorem szSSS_le (x:List (List (List Int))) (l:Int) (h:0≤l): -1≤szSSS x l∧szSSS x l≤l:=szL_le (fun x l h=>szSS_le x l h) x l h
theorem szGo_mem {α:Type} {f:α→Int→Int} (hf:∀x l,0≤l→-1≤f x l∧f x l≤l):∀(xs:List α) (l:Int),0≤l→0≤szGo f xs l→∀x∈xs,∃l',0≤l'∧l'≤l∧0≤f x l':=by
  intro xs
  induction xs with
  |nil=>intro l _ _ x hx;cases hx
  | cons y ys ih=>
    intro l hl h x hx
    have hy:=hf y l hl
    simp only[szGo]at h
    split at h
    · omega
    · rcases List.mem_cons.1 hx with rfl|hx
      · exact⟨l,hl,by omega,by omega⟩
      · obtain⟨l',h1,h2,h3⟩:=ih (f y l) (by omega) h x hx
        exact⟨l',h1,by omega,h3⟩
theorem szL_mem {α:Type} {f:α→Int→Int} (hf:∀x l,0≤l→-1≤f x l∧f x l≤l) {xs:List α} {l:Int} (hl:0≤l) (h:0≤szL f xs l):(xs.length:Int)≤l∧∀x∈xs,∃l',0≤l'∧l'≤l∧0≤f x l':=by
  unfold szL at h
  split at h
  · omega
  · refine⟨by omega,fun x hx=> ?_⟩
    obtain⟨l',h1,h2,h3⟩:=szGo_mem hf xs _ (by omega) h x hx
    exact⟨l',h1,by omega,h3⟩
theorem szS_mem {a:List Int} {l:Int} (h:0≤szS a l):(a.length:Int)≤l:=by unfold szS at h;split at h<;>omega
structure rowslen (a:List (List Int)):Prop where
  n:a.length≤1048576
  v:∀x∈a,x.length≤1048576
structure cubeslen (a:List (List (List Int))):Prop where
  n:a.length≤1048576
  v:∀x∈a,rowslen x
theorem szSS_mem {a:List (List Int)} {l:Int} (hl:0≤l) (h2:l≤1048576) (h:0≤szSS a l):rowslen a:=by
  obtain⟨h3,h4⟩:=szL_mem (fun x l h=>szS_le x l h) hl h
  refine⟨by omega,fun x hx=> ?_⟩
  obtain⟨l',h5,h6,h7⟩:=h4 x hx
  have:=szS_mem h7
  omega
theorem szSSS_mem {a:List (List (List Int))} {l:Int} (hl:0≤l) (h2:l≤1048576) (h:0≤szSSS a l):cubeslen a:=by
  obtain⟨h3,h4⟩:=szL_mem (fun x l h=>szSS_le x l h) hl h
  refine⟨by omega,fun x hx=> ?_⟩
  obtain⟨l',h5,h6,h7⟩:=h4 x hx
  exact szSS_mem h5 (by omega) h7
theorem szR_mem {pw:List (List Int)} {br:List (List (List Int))} {l:Int} (hl:0≤l) (h2:l≤1048576) (h:0≤szR pw br l):rowslen pw∧cubeslen br:=by
  unfold szR at h
  have h3:=szSS_le pw l hl
  split at h
  · omega
  · exact⟨szSS_mem hl h2 (by omega),szSSS_mem (by omega) (by omega) h⟩
theorem getD_mem {α:Type} {P:α→Prop} {xs:List α} {d:α} (h:∀x∈xs,P x) (hd:P d) (i:Nat):P (xs.getD i d):=by
  by_cases hi:i<xs.length
  · exact h _ (by simp[hi])
  · simp[List.getD_eq_getElem?_getD,List.getElem?_eq_none (Nat.le_of_not_lt hi),hd]
theorem rowslen.nil:rowslen []:=⟨by simp,by simp⟩
theorem rowslen.getD {a:List (List Int)} (h:rowslen a) (i:Nat):(a.getD i []).length≤1048576:=getD_mem (P:=fun x:List Int=>x.length≤1048576) h.v (by simp) i
theorem ringlen.of {pw:List (List Int)} {br:List (List (List Int))} (h1:rowslen pw) (h2:cubeslen br):ringlen pw br:=
  ⟨h1.n,h1.getD,h2.n,fun i=>(getD_mem h2.v .nil i).n,fun i j=>(getD_mem h2.v .nil i).getD j⟩
end Go.Proofs.YtnlfbimjcabgiaaGreat
