import Derived.Test.YtghmeeifjeafmaaGreatZ11
import Derived.Test.YtghmeeifjeafmaaGreatZ16
set_option linter.unusedVariables false
set_option linter.unusedSimpArgs false
namespace Go.Proofs.YtghmeeifjeafmaaGreat
open Nat (reduceAdd reduceSub reduceGT reduceEqDiff reduceMul)
def prs (os:List Int) (pw:List (List Int)) (cj:List (List (List Int))):AV:= .g [ints os,rows pw,cubes cj]
def prsP (os:List Int) (pw:List (List Int)) (cj:List (List (List Int))):AV:= .p 0 [ints os,rows pw,cubes cj]
def xpP (os v:List Int) (z:Int):Prop:=v.length=os.length∧∀k,k<v.length→(0≤v.getD k 0∧v.getD k 0≤os.getD k 0-1)∧((k:Int)≤z→v.getD k 0=0)
def lvP (os:List Int) (pw:List (List Int)) (cj:List (List (List Int))) (i:Nat):Prop:=
  xpP os (pw.getD i []) i∧(cj.getD i []).length+1+i=os.length∧∀k,k<(cj.getD i []).length→xpP os ((cj.getD i []).getD k []) i
def prd (os:List Int):Nat→Int
  |0=>1
  |k+1=>prd os k*os.getD k 0
def presOk (os:List Int) (pw:List (List Int)) (cj:List (List (List Int))):Prop:=
  (os.length≤6∧pw.length=os.length∧cj.length=os.length)∧(∀i,i<os.length→pr4 (os.getD i 0))∧prd os os.length≤729∧∀i,i<os.length→lvP os pw cj i
def sprd (os:List Int):Nat→Int
  |0=>1
  |k+1=>if sprd os k≤729 then sprd os k*os.getD k 0 else sprd os k
theorem mul_bd {a b:Int} {A B:Int} (ha:1≤a) (ha':a≤A) (hb:1≤b) (hb':b≤B):1≤a*b∧a*b≤A*B∧a≤a*b:=by
  have h1:1*1≤a*b:=Int.mul_le_mul ha hb (by omega) (by omega)
  have h2:a*b≤A*B:=Int.mul_le_mul ha' hb' (by omega) (by omega)
  have h3:a*1≤a*b:=Int.mul_le_mul (Int.le_refl _) hb (by omega) (by omega)
  omega
theorem sprd_bd {os:List Int} (h:∀i,i<os.length→pr4 (os.getD i 0)):∀k,k≤os.length→(1≤sprd os k∧sprd os k≤5103)∧((sprd os k≤729∧sprd os k=prd os k)∨(729<sprd os k∧729<prd os k)):=by
  intro k
  induction k with
  |zero=>intro _;simp[sprd,prd]
  | succ k ih=>
    intro hk
    obtain⟨⟨h1,h2⟩,h3⟩:=ih (by omega)
    have h4:=pr4_bd (h k (by omega))
    simp only[sprd,prd];split
    · rename_i hs
      have h5:=mul_bd h1 hs (show 1≤os.getD k 0 by omega) (show os.getD k 0≤7 by omega)
      rcases h3 with h3|h3
      · rw[←h3.2];refine⟨by omega,?_⟩;omega
      omega
    rename_i hs
    rcases h3 with h3|h3
    · omega
    have h6:1≤prd os k:=by omega
    have h7:=mul_bd h6 (Int.le_refl _) (show 1≤os.getD k 0 by omega) (show os.getD k 0≤7 by omega)
    refine⟨by omega,.inr ⟨by omega,by omega⟩⟩
theorem prd_pos {os:List Int} (h:∀i,i<os.length→pr4 (os.getD i 0)):∀k,k≤os.length→1≤prd os k:=by
  intro k hk
  have:=sprd_bd h k hk
  omega
theorem prd_mono {os:List Int} (h:∀i,i<os.length→pr4 (os.getD i 0)) {k:Nat}:∀d,k+d≤os.length→prd os k≤prd os (k+d):=by
  intro d
  induction d with
  |zero=>intro _;exact Int.le_refl _
  | succ d ih=>
    intro hd
    have h1:=ih (by omega)
    have h2:=pr4_bd (h (k+d) (by omega))
    have h3:=prd_pos h (k+d) (by omega)
    have h4:=mul_bd h3 (Int.le_refl _) (show 1≤os.getD (k+d) 0 by omega) (show os.getD (k+d) 0≤7 by omega)
    show prd os k≤prd os (k+d)*os.getD (k+d) 0
    omega
theorem spec_l07Exponents_ok (os v:List Int) (z:Int) (ho:os.length≤1048576) (hob:∀k,k<os.length→0≤os.getD k 0∧os.getD k 0≤1000) (hv:v.length≤1048576):ACp Tryz.prog 129 [ints os,ints v,.i .i64 z] (.b (tf (xpP os v z))):=by
 refine ACp.intro' envOk Tryz.func129 rfl (by kernel_rfl) Tryz.ntmps129 Tryz.results129 (.b _) (fun nx cX=>?_)
 refine AW.sr envOk (fun N hN=>?_);simp-dsimp-implicitDefEqProofs (disch:=omega)only[go_sem,ints,gd_i];refine hN _ ?_;try clear hN N
 refine AW.seq (fun N1 hN1=>?_);refine AW.sr envOk (fun N hN=>?_);simp-dsimp-implicitDefEqProofs (disch:=omega)only[go_sem,ints,gd_i];refine hN _ ?_;try clear hN N
 refine AW.cond rfl (fun h1=>?_) (fun h1=>?_)
 ·try simp only[cn]at h1
  refine AW.sr envOk (fun N hN=>?_);simp-dsimp-implicitDefEqProofs (disch:=omega)only[go_sem,ints,gd_i];refine hN _ ?_;try clear hN N
  refine AW.ret ?_;simp-dsimp-implicitDefEqProofs (disch:=omega)only[go_sem];exact bt (tf_f (fun h=>h1 (by rw[h.1]))).symm
 try simp only[cn]at h1
 refine AW.skip ?_;simp only[thn,blk];refine hN1 _ ?_;try clear hN1 N1
 refine AW.seq (fun N2 hN2=>?_);refine AW.sr envOk (fun N hN=>?_);simp-dsimp-implicitDefEqProofs (disch:=omega)only[go_sem,ints,gd_i];refine hN _ ?_;try clear hN N
 refine AW.block ?_;refine AW.loopN (α:=Nat) (fun x=>sl 42 [(0,ints os),(1,ints v),(2,.i .i64 z),(7,.i .i64 x)]) (fun _=>noH) (fun x m=>x≤v.length∧∀k,k<x→(0≤v.getD k 0∧v.getD k 0≤os.getD k 0-1)∧((k:Int)≤z→v.getD k 0=0)) (fun x=>v.length-x) (0) ?_ ?_ (fun _ _ h=>h) ?_
 ·exact⟨by omega,by intro j hj;omega⟩
 ·simp(disch:=omega) [wks,wkA,sl,w64,ints,rows,cubes,ints,gd_i,w64]<;>omega
 skip
 rintro k m ⟨hk,hI⟩
 simp-dsimp-implicitDefEqProofs (disch:=omega)only[go_sem];refine AW.seq (fun N3 hN3=>?_);refine AW.sr envOk (fun N hN=>?_);simp-dsimp-implicitDefEqProofs (disch:=omega)only[go_sem,ints,gd_i];refine hN _ ?_;try clear hN N
 refine AW.cond rfl (fun h2=>?_) (fun h2=>?_)
 ·try simp only[cn]at h2
  have hkb:=hob k (by omega)
  refine AW.skip ?_;simp only[thn,blk];refine hN3 _ ?_;try clear hN3 N3
  refine AW.seq (fun N4 hN4=>?_);refine AW.block ?_;refine AW.seq (fun N hN=>?_);refine AW.drawL envOk (by kernel_rfl) 23 (by kernel_rfl) ?_
  simp-dsimp-implicitDefEqProofs (disch:=omega)only[hr_nil,hr_one,hr_if,List.take_succ_cons,List.take_zero,List.drop_succ_cons,List.drop_zero,List.take_nil,List.drop_nil,go_sem,undef,ints,gd_i,w64];refine⟨_,.of (spec_l01In_ok _ _ _),?_⟩
  try simp-dsimp-implicitDefEqProofs (disch:=omega)only[go_sem,ints,gd_i]
  refine gopB.mk' (fun h3=>?_) (fun h3=>?_)
  ·try simp only[cn]at h3
   try simp-dsimp-implicitDefEqProofs (disch:=omega)only[go_sem,ints,gd_i]
   refine gopB.mk' (fun h4=>?_) (fun h4=>?_)
   ·try simp only[cn]at h4
    try simp-dsimp-implicitDefEqProofs (disch:=omega)only[go_sem,ints,gd_i]
    refine hN _ ?_;try clear hN N
    refine AW.cond rfl (fun h5=>?_) (fun h5=>?_)
    ·try simp only[cn]at h5
     refine AW.sr envOk (fun N hN=>?_);simp-dsimp-implicitDefEqProofs (disch:=omega)only[go_sem,ints,gd_i];refine hN _ ?_;try clear hN N
     refine AW.ret ?_;simp-dsimp-implicitDefEqProofs (disch:=omega)only[go_sem];exact bt (tf_f (fun h=>h5 ((h.2 k (by omega)).2 h4))).symm
    try simp only[cn]at h5
    refine AW.skip ?_;simp only[thn,blk];refine hN4 _ ?_;try clear hN4 N4
    refine AW.regionL envOk ?_;simp-dsimp-implicitDefEqProofs (disch:=omega)only[go_sem,ints,gd_i];refine⟨k+1,?_,fun _ _ h=>h,?_,?_⟩
    ·simp(disch:=omega) [wks,wkA,sl,w64,ints,rows,cubes,ints,gd_i,w64]<;>omega
    ·refine⟨by omega,fun j hj=>?_⟩
     by_cases e:j=k
     ·subst e;exact⟨h3,fun _=>h5⟩
     exact hI j (by omega)
    first|omega|(simp only;omega)
   try simp only[cn]at h4
   try simp-dsimp-implicitDefEqProofs (disch:=omega)only[go_sem,ints,gd_i]
   refine hN _ ?_;try clear hN N
   refine AW.condF rfl ?_;refine AW.skip ?_;simp only[thn,blk];refine hN4 _ ?_;try clear hN4 N4
   refine AW.regionL envOk ?_;simp-dsimp-implicitDefEqProofs (disch:=omega)only[go_sem,ints,gd_i];refine⟨k+1,?_,fun _ _ h=>h,?_,?_⟩
   ·simp(disch:=omega) [wks,wkA,sl,w64,ints,rows,cubes,ints,gd_i,w64]<;>omega
   ·refine⟨by omega,fun j hj=>?_⟩
    by_cases e:j=k
    ·subst e;exact⟨h3,fun q=>absurd q (by omega)⟩
    exact hI j (by omega)
   first|omega|(simp only;omega)
  try simp only[cn]at h3
  try simp-dsimp-implicitDefEqProofs (disch:=omega)only[go_sem,ints,gd_i]
  refine hN _ ?_;try clear hN N
  refine AW.condT rfl ?_;refine AW.sr envOk (fun N hN=>?_);simp-dsimp-implicitDefEqProofs (disch:=omega)only[go_sem,ints,gd_i];refine hN _ ?_;try clear hN N
  refine AW.ret ?_;simp-dsimp-implicitDefEqProofs (disch:=omega)only[go_sem];exact bt (tf_f (fun h=>h3 (h.2 k (by omega)).1)).symm
 try simp only[cn]at h2
 refine AW.exit ?_;simp only[thn,blk,if_true];refine hN2 _ ?_;try clear hN2 N2
 refine AW.sr envOk (fun N hN=>?_);simp-dsimp-implicitDefEqProofs (disch:=omega)only[go_sem,ints,gd_i];refine hN _ ?_;try clear hN N
 refine AW.ret ?_;simp-dsimp-implicitDefEqProofs (disch:=omega)only[go_sem];exact bt (tf_t ⟨by omega,fun j hj=>hI j (by omega)⟩).symm
def exP (os v:List Int):Prop:=v.length=os.length∧∀k,k<v.length→0≤v.getD k 0∧v.getD k 0≤os.getD k 0-1
theorem xp_ex {os v:List Int}:xpP os v (-1)↔exP os v:=
  ⟨fun h=>⟨h.1,fun k hk=>(h.2 k hk).1⟩,fun h=>⟨h.1,fun k hk=>⟨h.2 k hk,fun q=>by omega⟩⟩⟩
theorem xp_tail {os v:List Int} {i:Nat} (hi:i<os.length):xpP os v i↔exP os v∧zeros (v.take (i+1)):=by
  constructor
  · intro h
    refine⟨⟨h.1,fun k hk=>(h.2 k hk).1⟩,fun j hj=>?_⟩
    have hl:=h.1
    rw[List.length_take]at hj
    rw[getD_take _ _ (by omega)]
    exact(h.2 j (by omega)).2 (by omega)
  rintro⟨h1,h2⟩
  refine⟨h1.1,fun k hk=>⟨h1.2 k hk,fun q=>?_⟩⟩
  have hl:=h1.1
  have:=h2 k (by rw[List.length_take];omega)
  rwa [getD_take _ _ (by omega)]at this
theorem impl_isExponents_ok (os:List Int) (pw:List (List Int)) (cj:List (List (List Int))) (v:List Int) (ho:os.length≤1048576) (hob:∀k,k<os.length→0≤os.getD k 0∧os.getD k 0≤1000) (hv:v.length≤1048576):ACp Tryz.prog 78 [prsP os pw cj,ints v] (.b (tf (exP os v))):=by
 refine ACp.intro' envOk Tryz.func78 rfl (by kernel_rfl) Tryz.ntmps78 Tryz.results78 (.b _) (fun nx cX=>?_)
 refine AW.sr envOk (fun N hN=>?_);simp-dsimp-implicitDefEqProofs (disch:=omega)only[go_sem,prsP,ints,rows,cubes,gd_i];refine hN _ ?_;try clear hN N
 refine AW.seq (fun N1 hN1=>?_);refine AW.sr envOk (fun N hN=>?_);simp-dsimp-implicitDefEqProofs (disch:=omega)only[go_sem,prsP,ints,rows,cubes,gd_i];refine hN _ ?_;try clear hN N
 refine AW.cond rfl (fun h1=>?_) (fun h1=>?_)
 ·try simp only[cn]at h1
  refine AW.sr envOk (fun N hN=>?_);simp-dsimp-implicitDefEqProofs (disch:=omega)only[go_sem,prsP,ints,rows,cubes,gd_i];refine hN _ ?_;try clear hN N
  refine AW.ret ?_;simp-dsimp-implicitDefEqProofs (disch:=omega)only[go_sem];exact bt (tf_f (fun h=>h1 (by rw[h.1]))).symm
 try simp only[cn]at h1
 refine AW.skip ?_;simp only[thn,blk];refine hN1 _ ?_;try clear hN1 N1
 refine AW.seq (fun N2 hN2=>?_);refine AW.sr envOk (fun N hN=>?_);simp-dsimp-implicitDefEqProofs (disch:=omega)only[go_sem,prsP,ints,rows,cubes,gd_i];refine hN _ ?_;try clear hN N
 refine AW.block ?_;refine AW.loopN (α:=Nat) (fun x=>sl 34 [(0,prsP os pw cj),(15,ints v),(16,.i .i64 v.length),(17,.i .i64 x)]) (fun _=>noH) (fun x m=>x≤v.length∧∀k,k<x→0≤v.getD k 0∧v.getD k 0≤os.getD k 0-1) (fun x=>v.length-x) (0) ?_ ?_ (fun _ _ h=>h) ?_
 ·exact⟨by omega,by intro j hj;omega⟩
 ·simp(disch:=omega) [wks,wkA,sl,w64,ints,rows,cubes,prsP,ints,rows,cubes,gd_i,w64]<;>omega
 skip
 rintro k m ⟨hk,hI⟩
 simp-dsimp-implicitDefEqProofs (disch:=omega)only[go_sem];refine AW.sr envOk (fun N hN=>?_);simp-dsimp-implicitDefEqProofs (disch:=omega)only[go_sem,prsP,ints,rows,cubes,gd_i];refine hN _ ?_;try clear hN N
 refine AW.seq (fun N3 hN3=>?_);refine AW.cond rfl (fun h2=>?_) (fun h2=>?_)
 ·try simp only[cn]at h2
  have hkb:=hob k (by omega)
  refine AW.skip ?_;simp only[thn,blk];refine hN3 _ ?_;try clear hN3 N3
  refine AW.seq (fun N4 hN4=>?_);refine AW.block ?_;refine AW.sr envOk (fun N hN=>?_);simp-dsimp-implicitDefEqProofs (disch:=omega)only[go_sem,prsP,ints,rows,cubes,gd_i];refine hN _ ?_;try clear hN N
  refine AW.sr envOk (fun N hN=>?_);simp-dsimp-implicitDefEqProofs (disch:=omega)only[go_sem,prsP,ints,rows,cubes,gd_i];refine AC.pure (.of (impl_inside_ok _ _ _)) ?_;try simp-dsimp-implicitDefEqProofs (disch:=omega)only[go_sem,prsP,ints,rows,cubes,gd_i]
  refine hN _ ?_;try clear hN N
  refine AW.cond rfl (fun h3=>?_) (fun h3=>?_)
  ·try simp only[cn]at h3
   refine AW.sr envOk (fun N hN=>?_);simp-dsimp-implicitDefEqProofs (disch:=omega)only[go_sem,prsP,ints,rows,cubes,gd_i];refine hN _ ?_;try clear hN N
   refine AW.ret ?_;simp-dsimp-implicitDefEqProofs (disch:=omega)only[go_sem];exact bt (tf_f (fun h=>h3 (h.2 k (by omega)))).symm
  try simp only[cn]at h3
  refine AW.skip ?_;simp only[thn,blk];refine hN4 _ ?_;try clear hN4 N4
  refine AW.regionL envOk ?_;simp-dsimp-implicitDefEqProofs (disch:=omega)only[go_sem,prsP,ints,rows,cubes,gd_i];refine⟨k+1,?_,fun _ _ h=>h,?_,?_⟩
  ·simp(disch:=omega) [wks,wkA,sl,w64,ints,rows,cubes,prsP,ints,rows,cubes,gd_i,w64]<;>omega
  ·refine⟨by omega,fun j hj=>?_⟩
   by_cases e:j=k
   ·subst e;exact h3
   exact hI j (by omega)
  first|omega|(simp only;omega)
 try simp only[cn]at h2
 refine AW.exit ?_;simp only[thn,blk,if_true];refine hN2 _ ?_;try clear hN2 N2
 refine AW.sr envOk (fun N hN=>?_);simp-dsimp-implicitDefEqProofs (disch:=omega)only[go_sem,prsP,ints,rows,cubes,gd_i];refine hN _ ?_;try clear hN N
 refine AW.ret ?_;simp-dsimp-implicitDefEqProofs (disch:=omega)only[go_sem];exact bt (tf_t ⟨by omega,fun j hj=>hI j (by omega)⟩).symm
theorem impl_tailVector_ok (os:List Int) (pw:List (List Int)) (cj:List (List (List Int))) (i:Nat) (hi:i<os.length) (v:List Int) (ho:os.length≤1048576) (hob:∀k,k<os.length→0≤os.getD k 0∧os.getD k 0≤1000) (hv:v.length≤1048576):ACp Tryz.prog 106 [prsP os pw cj,.i .i64 i,ints v] (.b (tf (xpP os v i))):=by
 refine ACp.intro' envOk Tryz.func106 rfl (by kernel_rfl) Tryz.ntmps106 Tryz.results106 (.b _) (fun nx cX=>?_)
 refine AW.sr envOk (fun N hN=>?_);simp-dsimp-implicitDefEqProofs (disch:=omega)only[go_sem,ints];refine hN _ ?_;try clear hN N
 refine AW.sr envOk (fun N hN=>?_);simp-dsimp-implicitDefEqProofs (disch:=omega)only[go_sem,ints];refine AC.pure (.of (impl_isExponents_ok os pw cj v ho hob hv)) ?_;try simp-dsimp-implicitDefEqProofs (disch:=omega)only[go_sem,ints]
 refine gopB.mk' (fun h1=>?_) (fun h1=>?_)
 ·try simp only[cn]at h1
  try simp-dsimp-implicitDefEqProofs (disch:=omega)only[go_sem,ints]
  have hvl:=h1.1
  refine⟨by omega,?_⟩
  rw[ints_take _ (by omega)]
  refine AC.pure (.of (impl_isZero_ok (v.take (i+1)) (by simp;omega))) ?_;try simp-dsimp-implicitDefEqProofs (disch:=omega)only[go_sem,ints]
  refine hN _ ?_;try clear hN N
  refine AW.ret ?_;simp-dsimp-implicitDefEqProofs (disch:=omega)only[go_sem];exact bt (tf_eq (by rw[xp_tail hi];exact⟨fun h=>⟨h1,h⟩,fun h=>h.2⟩))
 try simp only[cn]at h1
 try simp-dsimp-implicitDefEqProofs (disch:=omega)only[go_sem,ints]
 refine hN _ ?_;try clear hN N
 refine AW.ret ?_;simp-dsimp-implicitDefEqProofs (disch:=omega)only[go_sem];exact bt (tf_f (fun h=>h1 ((xp_tail hi).1 h).1)).symm
theorem spec_l07Product_ok (os:List Int) (ho:os.length≤6) (hp:∀i,i<os.length→pr4 (os.getD i 0)):ACp Tryz.prog 117 [ints os] (.i .i64 (sprd os os.length)):=by
 refine ACp.intro' envOk Tryz.func117 rfl (by kernel_rfl) Tryz.ntmps117 Tryz.results117 (.i _ _) (fun nx cX=>?_)
 refine AW.sr envOk (fun N hN=>?_);simp-dsimp-implicitDefEqProofs (disch:=omega)only[go_sem,ints,gd_i];refine hN _ ?_;try clear hN N
 refine AW.sr envOk (fun N hN=>?_);simp-dsimp-implicitDefEqProofs (disch:=omega)only[go_sem,ints,gd_i];refine hN _ ?_;try clear hN N
 refine AW.seq (fun N1 hN1=>?_);refine AW.sr envOk (fun N hN=>?_);simp-dsimp-implicitDefEqProofs (disch:=omega)only[go_sem,ints,gd_i];refine hN _ ?_;try clear hN N
 refine AW.block ?_;refine AW.loopN (α:=Nat) (fun x=>sl 20 [(0,ints os),(3,.i .i64 (sprd os x)),(4,.i .i64 x)]) (fun _=>noH) (fun x m=>x≤os.length) (fun x=>os.length-x) (0) ?_ ?_ (fun _ _ h=>h) ?_
 ·omega
 ·simp(disch:=omega) [wks,wkA,sl,ints,sprd]
 skip
 rintro k m hk
 simp-dsimp-implicitDefEqProofs (disch:=omega)only[go_sem];refine AW.seq (fun N2 hN2=>?_);refine AW.sr envOk (fun N hN=>?_);simp-dsimp-implicitDefEqProofs (disch:=omega)only[go_sem,ints,gd_i];refine hN _ ?_;try clear hN N
 refine AW.cond rfl (fun h1=>?_) (fun h1=>?_)
 ·try simp only[cn]at h1
  have h5:=sprd_bd hp k (by omega)
  have h4:=pr4_bd (hp k (by omega))
  refine AW.skip ?_;simp only[thn,blk];refine hN2 _ ?_;try clear hN2 N2
  refine AW.seq (fun N3 hN3=>?_);refine AW.block ?_;refine AW.sr envOk (fun N hN=>?_);simp-dsimp-implicitDefEqProofs (disch:=omega)only[go_sem,ints,gd_i];refine hN _ ?_;try clear hN N
  refine AW.cond rfl (fun h2=>?_) (fun h2=>?_)
  ·try simp only[cn]at h2
   have h6:=mul_bd h5.1.1 h2 (show 1≤os.getD k 0 by omega) (show os.getD k 0≤7 by omega)
   have h7:sprd os (k+1)=sprd os k*os.getD k 0:=by rw[sprd,if_pos h2]
   refine AW.regionL envOk ?_;simp-dsimp-implicitDefEqProofs (disch:=omega)only[go_sem,ints,gd_i];refine hN3 _ ?_;try clear hN3 N3
   refine AW.regionL envOk ?_;simp-dsimp-implicitDefEqProofs (disch:=omega)only[go_sem,ints,gd_i];refine⟨k+1,?_,fun _ _ h=>h,?_,?_⟩
   ·simp(disch:=omega) [wks,wkA,sl,w64,ints,h7]<;>omega
   ·omega
   first|omega|(simp only;omega)
  try simp only[cn]at h2
  have h7:sprd os (k+1)=sprd os k:=by rw[sprd,if_neg (by omega)]
  refine AW.skip ?_;simp only[thn,blk];refine hN3 _ ?_;try clear hN3 N3
  refine AW.regionL envOk ?_;simp-dsimp-implicitDefEqProofs (disch:=omega)only[go_sem,ints,gd_i];refine⟨k+1,?_,fun _ _ h=>h,?_,?_⟩
  ·simp(disch:=omega) [wks,wkA,sl,w64,ints,h7]<;>omega
  ·omega
  first|omega|(simp only;omega)
 try simp only[cn]at h1
 refine AW.exit ?_;simp only[thn,blk,if_true];refine hN1 _ ?_;try clear hN1 N1
 refine AW.sr envOk (fun N hN=>?_);simp-dsimp-implicitDefEqProofs (disch:=omega)only[go_sem,ints,gd_i];refine hN _ ?_;try clear hN N
 refine AW.ret ?_;simp-dsimp-implicitDefEqProofs (disch:=omega)only[go_sem];rw[show k=os.length by omega]
structure prlen (os:List Int) (pw:List (List Int)) (cj:List (List (List Int))):Prop where
  o:os.length≤1048576
  r:ringlen pw cj
theorem presOk.ob {os:List Int} {pw:List (List Int)} {cj:List (List (List Int))} (h:∀i,i<os.length→pr4 (os.getD i 0)):∀k,k<os.length→0≤os.getD k 0∧os.getD k 0≤1000:=fun k hk=>by have:=pr4_bd (h k hk);omega
theorem spec_IsPresentation_ok (os:List Int) (pw:List (List Int)) (cj:List (List (List Int))) (hl:prlen os pw cj):ACp Tryz.prog 85 [prs os pw cj] (.b (tf (presOk os pw cj))):=by
 have ho:=hl.o
 have hn:=hl.r.n
 have hb:=hl.r.b
 refine ACp.intro' envOk Tryz.func85 rfl (by kernel_rfl) Tryz.ntmps85 Tryz.results85 (.b _) (fun nx cX=>?_)
 refine AW.sr envOk (fun N hN=>?_);simp-dsimp-implicitDefEqProofs (disch:=omega)only[go_sem,prs,ints,rows,cubes,gd_i,gd_r,gd_c];refine hN _ ?_;try clear hN N
 refine AW.freezeQ 1 nx _ rfl (upd_same _ _ _) ?_
 simp-dsimp-implicitDefEqProofs (disch:=omega)only[go_sem];refine AW.sr envOk (fun N hN=>?_);simp-dsimp-implicitDefEqProofs (disch:=omega)only[go_sem,prs,ints,rows,cubes,gd_i,gd_r,gd_c];refine hN _ ?_;try clear hN N
 refine AW.seq (fun N1 hN1=>?_);refine AW.sr envOk (fun N hN=>?_);simp-dsimp-implicitDefEqProofs (disch:=omega)only[go_sem,prs,ints,rows,cubes,gd_i,gd_r,gd_c];refine gopB.mk' (fun h1=>?_) (fun h1=>?_)
 ·try simp only[cn]at h1
  try simp-dsimp-implicitDefEqProofs (disch:=omega)only[go_sem,prs,ints,rows,cubes,gd_i,gd_r,gd_c]
  refine gopB.mk' (fun h2=>?_) (fun h2=>?_)
  ·try simp only[cn]at h2
   try simp-dsimp-implicitDefEqProofs (disch:=omega)only[go_sem,prs,ints,rows,cubes,gd_i,gd_r,gd_c]
   refine hN _ ?_;try clear hN N
   refine AW.cond rfl (fun h3=>?_) (fun h3=>?_)
   ·try simp only[cn]at h3
    refine AW.sr envOk (fun N hN=>?_);simp-dsimp-implicitDefEqProofs (disch:=omega)only[go_sem,prs,ints,rows,cubes,gd_i,gd_r,gd_c];refine hN _ ?_;try clear hN N
    refine AW.ret ?_;simp-dsimp-implicitDefEqProofs (disch:=omega)only[go_sem];exact bt (tf_f (fun h=>h3 (by rw[h.1.2.2]))).symm
   try simp only[cn]at h3
   refine AW.skip ?_;simp only[thn,blk];refine hN1 _ ?_;try clear hN1 N1
   refine AW.seq (fun N2 hN2=>?_);refine AW.sr envOk (fun N hN=>?_);simp-dsimp-implicitDefEqProofs (disch:=omega)only[go_sem,prs,ints,rows,cubes,gd_i,gd_r,gd_c];refine hN _ ?_;try clear hN N
   refine AW.block ?_;refine AW.loopN (α:=Nat) (fun x=>sl 93 [(1,prsP os pw cj),(3,.i .i64 os.length),(4,.i .i64 x)]) (fun _=>noH) (fun x m=>x≤os.length∧∀j,j<x→pr4 (os.getD j 0)) (fun x=>os.length-x) (0) ?_ ?_ (Le.del (by simp[noH])) ?_
   ·exact⟨by omega,by intro j hj;omega⟩
   ·simp(disch:=omega) [wks,wkA,sl,prsP,ints,rows,cubes]
   skip
   rintro k m ⟨hk,hI⟩
   simp-dsimp-implicitDefEqProofs (disch:=omega)only[go_sem];simp only[prsP];refine AW.seq (fun N3 hN3=>?_);refine AW.sr envOk (fun N hN=>?_);simp-dsimp-implicitDefEqProofs (disch:=omega)only[go_sem,prs,ints,rows,cubes,gd_i,gd_r,gd_c];refine hN _ ?_;try clear hN N
   refine AW.cond rfl (fun h4=>?_) (fun h4=>?_)
   ·try simp only[cn]at h4
    refine AW.skip ?_;simp only[thn,blk];refine hN3 _ ?_;try clear hN3 N3
    refine AW.seq (fun N4 hN4=>?_);refine AW.block ?_;refine AW.sr envOk (fun N hN=>?_);simp-dsimp-implicitDefEqProofs (disch:=omega)only[go_sem,prs,ints,rows,cubes,gd_i,gd_r,gd_c];refine AC.pure (.of (spec_l01Prime_ok _)) ?_;try simp-dsimp-implicitDefEqProofs (disch:=omega)only[go_sem,prs,ints,rows,cubes,gd_i,gd_r,gd_c]
    refine hN _ ?_;try clear hN N
    refine AW.cond rfl (fun h5=>?_) (fun h5=>?_)
    ·try simp only[cn]at h5
     refine AW.sr envOk (fun N hN=>?_);simp-dsimp-implicitDefEqProofs (disch:=omega)only[go_sem,prs,ints,rows,cubes,gd_i,gd_r,gd_c];refine hN _ ?_;try clear hN N
     refine AW.ret ?_;simp-dsimp-implicitDefEqProofs (disch:=omega)only[go_sem];exact bt (tf_f (fun h=>h5 (h.2.1 k (by omega)))).symm
    try simp only[cn]at h5
    refine AW.skip ?_;simp only[thn,blk];refine hN4 _ ?_;try clear hN4 N4
    refine AW.regionL envOk ?_;simp-dsimp-implicitDefEqProofs (disch:=omega)only[go_sem,prs,ints,rows,cubes,gd_i,gd_r,gd_c];refine⟨k+1,?_,fun _ _ h=>h,?_,?_⟩
    ·simp(disch:=omega) [wks,wkA,sl,prsP,w64,ints,rows,cubes]<;>omega
    ·refine⟨by omega,fun j hj=>?_⟩
     by_cases e:j=k
     ·subst e;exact h5
     exact hI j (by omega)
    first|omega|(simp only;omega)
   try simp only[cn]at h4
   have hpr:∀i,i<os.length→pr4 (os.getD i 0):=fun i hi=>hI i (by omega)
   have hob:=presOk.ob (pw:=pw) (cj:=cj) hpr
   have hsp:=sprd_bd hpr os.length (Nat.le_refl _)
   refine AW.exit ?_;simp only[thn,blk,if_true];refine hN2 _ ?_;try clear hN2 N2
   refine AW.seq (fun N5 hN5=>?_);refine AW.sr envOk (fun N hN=>?_);simp-dsimp-implicitDefEqProofs (disch:=omega)only[go_sem,prs,ints,rows,cubes,gd_i,gd_r,gd_c];refine AC.pure (.of (spec_l07Product_ok os (by omega) hpr)) ?_;try simp-dsimp-implicitDefEqProofs (disch:=omega)only[go_sem,prs,ints,rows,cubes,gd_i,gd_r,gd_c]
   refine hN _ ?_;try clear hN N
   refine AW.cond rfl (fun h6=>?_) (fun h6=>?_)
   ·try simp only[cn]at h6
    refine AW.sr envOk (fun N hN=>?_);simp-dsimp-implicitDefEqProofs (disch:=omega)only[go_sem,prs,ints,rows,cubes,gd_i,gd_r,gd_c];refine hN _ ?_;try clear hN N
    refine AW.ret ?_;simp-dsimp-implicitDefEqProofs (disch:=omega)only[go_sem];exact bt (tf_f (fun h=>by have:=h.2.2.1;omega)).symm
   try simp only[cn]at h6
   refine AW.skip ?_;simp only[thn,blk];refine hN5 _ ?_;try clear hN5 N5
   refine AW.seq (fun N6 hN6=>?_);refine AW.sr envOk (fun N hN=>?_);simp-dsimp-implicitDefEqProofs (disch:=omega)only[go_sem,prs,ints,rows,cubes,gd_i,gd_r,gd_c];refine hN _ ?_;try clear hN N
   refine AW.block ?_;refine AW.loopN (α:=Nat) (fun x=>sl 93 [(1,prsP os pw cj),(3,.i .i64 os.length),(5,.i .i64 x)]) (fun _=>noH) (fun x m=>x≤os.length∧∀j,j<x→lvP os pw cj j) (fun x=>os.length-x) (0) ?_ ?_ (fun _ _ h=>h) ?_
   ·exact⟨by omega,by intro j hj;omega⟩
   ·simp(disch:=omega) [wks,wkA,sl,prsP,ints,rows,cubes]
   skip
   rintro q m ⟨hq,hJ⟩
   simp-dsimp-implicitDefEqProofs (disch:=omega)only[go_sem];simp only[prsP];refine AW.seq (fun N7 hN7=>?_);refine AW.sr envOk (fun N hN=>?_);simp-dsimp-implicitDefEqProofs (disch:=omega)only[go_sem,prs,ints,rows,cubes,gd_i,gd_r,gd_c];refine hN _ ?_;try clear hN N
   refine AW.cond rfl (fun h7=>?_) (fun h7=>?_)
   ·try simp only[cn]at h7
    have hv:=hl.r.v q
    have hr:=hl.r.r q
    refine AW.skip ?_;simp only[thn,blk];refine hN7 _ ?_;try clear hN7 N7
    refine AW.seq (fun N8 hN8=>?_);refine AW.block ?_;refine AW.seq (fun N9 hN9=>?_);refine AW.seq (fun N hN=>?_);refine AW.drawL envOk (by kernel_rfl) 23 (by kernel_rfl) ?_
    simp-dsimp-implicitDefEqProofs (disch:=omega)only[hr_nil,hr_one,hr_if,List.take_succ_cons,List.take_zero,List.drop_succ_cons,List.drop_zero,List.take_nil,List.drop_nil,go_sem,undef,prs,ints,rows,cubes,gd_i,gd_r,gd_c,w64];refine⟨_,.of (spec_l07Exponents_ok os (pw.getD q []) q (by omega) hob (by omega)),?_⟩
    try simp-dsimp-implicitDefEqProofs (disch:=omega)only[go_sem,prs,ints,rows,cubes,gd_i,gd_r,gd_c]
    refine gopB.mk' (fun h8=>?_) (fun h8=>?_)
    ·try simp only[cn]at h8
     try simp-dsimp-implicitDefEqProofs (disch:=omega)only[go_sem,prs,ints,rows,cubes,gd_i,gd_r,gd_c]
     refine hN _ ?_;try clear hN N
     refine AW.cond rfl (fun h9=>?_) (fun h9=>?_)
     ·try simp only[cn]at h9
      refine AW.sr envOk (fun N hN=>?_);simp-dsimp-implicitDefEqProofs (disch:=omega)only[go_sem,prs,ints,rows,cubes,gd_i,gd_r,gd_c];refine hN _ ?_;try clear hN N
      refine AW.ret ?_;simp-dsimp-implicitDefEqProofs (disch:=omega)only[go_sem];exact bt (tf_f (fun h=>h9 (by have:=(h.2.2.2 q (by omega)).2.1;omega))).symm
     try simp only[cn]at h9
     refine AW.skip ?_;simp only[thn,blk];refine hN9 _ ?_;try clear hN9 N9
     refine AW.sr envOk (fun N hN=>?_);simp-dsimp-implicitDefEqProofs (disch:=omega)only[go_sem,prs,ints,rows,cubes,gd_i,gd_r,gd_c];refine hN _ ?_;try clear hN N
     refine AW.block ?_;refine AW.loopN (α:=Nat) (fun x=>sl 93 [(1,prsP os pw cj),(3,.i .i64 os.length),(5,.i .i64 q),(6,.i .i64 x)]) (fun _=>noH) (fun x m=>x≤(cj.getD q []).length∧∀j,j<x→xpP os ((cj.getD q []).getD j []) q) (fun x=>(cj.getD q []).length-x) (0) ?_ ?_ (fun _ _ h=>h) ?_
     ·exact⟨by omega,by intro j hj;omega⟩
     ·simp(disch:=omega) [wks,wkA,sl,prsP,ints,rows,cubes]
     skip
     rintro t m ⟨ht,hT⟩
     simp-dsimp-implicitDefEqProofs (disch:=omega)only[go_sem];simp only[prsP];refine AW.seq (fun N10 hN10=>?_);refine AW.sr envOk (fun N hN=>?_);simp-dsimp-implicitDefEqProofs (disch:=omega)only[go_sem,prs,ints,rows,cubes,gd_i,gd_r,gd_c];refine hN _ ?_;try clear hN N
     refine AW.cond rfl (fun h10=>?_) (fun h10=>?_)
     ·try simp only[cn]at h10
      have he:=hl.r.e q t
      refine AW.skip ?_;simp only[thn,blk];refine hN10 _ ?_;try clear hN10 N10
      refine AW.seq (fun N11 hN11=>?_);refine AW.block ?_;refine AW.seq (fun N hN=>?_);refine AW.drawL envOk (by kernel_rfl) 13 (by kernel_rfl) ?_
      simp-dsimp-implicitDefEqProofs (disch:=omega)only[hr_nil,hr_one,hr_if,List.take_succ_cons,List.take_zero,List.drop_succ_cons,List.drop_zero,List.take_nil,List.drop_nil,go_sem,undef,prs,ints,rows,cubes,gd_i,gd_r,gd_c,w64];refine⟨_,.of (spec_l07Exponents_ok os ((cj.getD q []).getD t []) q (by omega) hob (by omega)),?_⟩
      try simp-dsimp-implicitDefEqProofs (disch:=omega)only[go_sem,prs,ints,rows,cubes,gd_i,gd_r,gd_c]
      refine hN _ ?_;try clear hN N
      refine AW.cond rfl (fun h11=>?_) (fun h11=>?_)
      ·try simp only[cn]at h11
       refine AW.sr envOk (fun N hN=>?_);simp-dsimp-implicitDefEqProofs (disch:=omega)only[go_sem,prs,ints,rows,cubes,gd_i,gd_r,gd_c];refine hN _ ?_;try clear hN N
       refine AW.ret ?_;simp-dsimp-implicitDefEqProofs (disch:=omega)only[go_sem];exact bt (tf_f (fun h=>h11 ((h.2.2.2 q (by omega)).2.2 t (by omega)))).symm
      try simp only[cn]at h11
      refine AW.skip ?_;simp only[thn,blk];refine hN11 _ ?_;try clear hN11 N11
      refine AW.regionL envOk ?_;simp-dsimp-implicitDefEqProofs (disch:=omega)only[go_sem,prs,ints,rows,cubes,gd_i,gd_r,gd_c];refine⟨t+1,?_,fun _ _ h=>h,?_,?_⟩
      ·simp(disch:=omega) [wks,wkA,sl,prsP,w64,ints,rows,cubes]<;>omega
      ·refine⟨by omega,fun j hj=>?_⟩
       by_cases e:j=t
       ·subst e;exact h11
       exact hT j (by omega)
      first|omega|(simp only;omega)
     try simp only[cn]at h10
     refine AW.exit ?_;simp only[thn,blk,if_true];refine hN8 _ ?_;try clear hN8 N8
     refine AW.regionL envOk ?_;simp-dsimp-implicitDefEqProofs (disch:=omega)only[go_sem,prs,ints,rows,cubes,gd_i,gd_r,gd_c];refine⟨q+1,?_,fun _ _ h=>h,?_,?_⟩
     ·simp(disch:=omega) [wks,wkA,sl,prsP,w64,ints,rows,cubes]<;>omega
     ·refine⟨by omega,fun j hj=>?_⟩
      by_cases e:j=q
      ·subst e;exact⟨h8,by omega,fun i hi=>hT i (by omega)⟩
      exact hJ j (by omega)
     first|omega|(simp only;omega)
    try simp only[cn]at h8
    try simp-dsimp-implicitDefEqProofs (disch:=omega)only[go_sem,prs,ints,rows,cubes,gd_i,gd_r,gd_c]
    refine hN _ ?_;try clear hN N
    refine AW.condT rfl ?_;refine AW.sr envOk (fun N hN=>?_);simp-dsimp-implicitDefEqProofs (disch:=omega)only[go_sem,prs,ints,rows,cubes,gd_i,gd_r,gd_c];refine hN _ ?_;try clear hN N
    refine AW.ret ?_;simp-dsimp-implicitDefEqProofs (disch:=omega)only[go_sem];exact bt (tf_f (fun h=>h8 (h.2.2.2 q (by omega)).1)).symm
   try simp only[cn]at h7
   refine AW.exit ?_;simp only[thn,blk,if_true];refine hN6 _ ?_;try clear hN6 N6
   refine AW.sr envOk (fun N hN=>?_);simp-dsimp-implicitDefEqProofs (disch:=omega)only[go_sem,prs,ints,rows,cubes,gd_i,gd_r,gd_c];refine hN _ ?_;try clear hN N
   refine AW.ret ?_;simp-dsimp-implicitDefEqProofs (disch:=omega)only[go_sem];exact bt (tf_t ⟨⟨by omega,by omega,by omega⟩,hpr,by omega,fun i hi=>hJ i (by omega)⟩).symm
  try simp only[cn]at h2
  try simp-dsimp-implicitDefEqProofs (disch:=omega)only[go_sem,prs,ints,rows,cubes,gd_i,gd_r,gd_c]
  refine hN _ ?_;try clear hN N
  refine AW.condT rfl ?_;refine AW.sr envOk (fun N hN=>?_);simp-dsimp-implicitDefEqProofs (disch:=omega)only[go_sem,prs,ints,rows,cubes,gd_i,gd_r,gd_c];refine hN _ ?_;try clear hN N
  refine AW.ret ?_;simp-dsimp-implicitDefEqProofs (disch:=omega)only[go_sem];exact bt (tf_f (fun h=>h2 (by rw[h.1.2.1]))).symm
 try simp only[cn]at h1
 try simp-dsimp-implicitDefEqProofs (disch:=omega)only[go_sem,prs,ints,rows,cubes,gd_i,gd_r,gd_c]
 refine hN _ ?_;try clear hN N
 refine AW.condT rfl ?_;refine AW.sr envOk (fun N hN=>?_);simp-dsimp-implicitDefEqProofs (disch:=omega)only[go_sem,prs,ints,rows,cubes,gd_i,gd_r,gd_c];refine hN _ ?_;try clear hN N
 refine AW.ret ?_;simp-dsimp-implicitDefEqProofs (disch:=omega)only[go_sem];exact bt (tf_f (fun h=>by have:=h.1.1;omega)).symm
theorem impl_IsPresentation_ok (os:List Int) (pw:List (List Int)) (cj:List (List (List Int))) (hl:prlen os pw cj):ACp Tryz.prog 66 [prs os pw cj] (.b (tf (presOk os pw cj))):=by
 have ho:=hl.o
 have hn:=hl.r.n
 have hb:=hl.r.b
 refine ACp.intro' envOk Tryz.func66 rfl (by kernel_rfl) Tryz.ntmps66 Tryz.results66 (.b _) (fun nx cX=>?_)
 refine AW.sr envOk (fun N hN=>?_);simp-dsimp-implicitDefEqProofs (disch:=omega)only[go_sem,prs,ints,rows,cubes,gd_i,gd_r,gd_c];refine hN _ ?_;try clear hN N
 refine AW.freezeQ 1 nx _ rfl (upd_same _ _ _) ?_
 simp-dsimp-implicitDefEqProofs (disch:=omega)only[go_sem];refine AW.sr envOk (fun N hN=>?_);simp-dsimp-implicitDefEqProofs (disch:=omega)only[go_sem,prs,ints,rows,cubes,gd_i,gd_r,gd_c];refine hN _ ?_;try clear hN N
 refine AW.seq (fun N1 hN1=>?_);refine AW.sr envOk (fun N hN=>?_);simp-dsimp-implicitDefEqProofs (disch:=omega)only[go_sem,prs,ints,rows,cubes,gd_i,gd_r,gd_c];refine gopB.mk' (fun h1=>?_) (fun h1=>?_)
 ·try simp only[cn]at h1
  try simp-dsimp-implicitDefEqProofs (disch:=omega)only[go_sem,prs,ints,rows,cubes,gd_i,gd_r,gd_c]
  refine gopB.mk' (fun h2=>?_) (fun h2=>?_)
  ·try simp only[cn]at h2
   try simp-dsimp-implicitDefEqProofs (disch:=omega)only[go_sem,prs,ints,rows,cubes,gd_i,gd_r,gd_c]
   refine hN _ ?_;try clear hN N
   refine AW.cond rfl (fun h3=>?_) (fun h3=>?_)
   ·try simp only[cn]at h3
    refine AW.sr envOk (fun N hN=>?_);simp-dsimp-implicitDefEqProofs (disch:=omega)only[go_sem,prs,ints,rows,cubes,gd_i,gd_r,gd_c];refine hN _ ?_;try clear hN N
    refine AW.ret ?_;simp-dsimp-implicitDefEqProofs (disch:=omega)only[go_sem];exact bt (tf_f (fun h=>h3 (by rw[h.1.2.2]))).symm
   try simp only[cn]at h3
   refine AW.skip ?_;simp only[thn,blk];refine hN1 _ ?_;try clear hN1 N1
   refine AW.sr envOk (fun N hN=>?_);simp-dsimp-implicitDefEqProofs (disch:=omega)only[go_sem,prs,ints,rows,cubes,gd_i,gd_r,gd_c];refine hN _ ?_;try clear hN N
   refine AW.seq (fun N2 hN2=>?_);refine AW.sr envOk (fun N hN=>?_);simp-dsimp-implicitDefEqProofs (disch:=omega)only[go_sem,prs,ints,rows,cubes,gd_i,gd_r,gd_c];refine hN _ ?_;try clear hN N
   refine AW.block ?_;refine AW.loopN (α:=Nat) (fun x=>sl 90 [(1,prsP os pw cj),(3,.i .i64 os.length),(4,.i .i64 (prd os x)),(30,ints os),(31,.i .i64 os.length),(32,.i .i64 x)]) (fun _=>noH) (fun x m=>x≤os.length∧(∀j,j<x→pr4 (os.getD j 0))∧1≤prd os x∧prd os x≤729) (fun x=>os.length-x) (0) ?_ ?_ (Le.del (by simp[noH])) ?_
   ·exact⟨by omega,(by intro j hj;omega),by simp[prd],by simp[prd]⟩
   ·simp(disch:=omega) [wks,wkA,sl,prsP,ints,rows,cubes,prd]
   skip
   rintro k m ⟨hk,hI,hp1,hp2⟩
   simp-dsimp-implicitDefEqProofs (disch:=omega)only[go_sem];simp only[prsP];refine AW.sr envOk (fun N hN=>?_);simp-dsimp-implicitDefEqProofs (disch:=omega)only[go_sem,prs,ints,rows,cubes,gd_i,gd_r,gd_c];refine hN _ ?_;try clear hN N
   refine AW.seq (fun N3 hN3=>?_);refine AW.cond rfl (fun h4=>?_) (fun h4=>?_)
   ·try simp only[cn]at h4
    refine AW.skip ?_;simp only[thn,blk];refine hN3 _ ?_;try clear hN3 N3
    refine AW.seq (fun N4 hN4=>?_);refine AW.block ?_;refine AW.sr envOk (fun N hN=>?_);simp-dsimp-implicitDefEqProofs (disch:=omega)only[go_sem,prs,ints,rows,cubes,gd_i,gd_r,gd_c];refine hN _ ?_;try clear hN N
    refine AW.seq (fun N5 hN5=>?_);refine AW.sr envOk (fun N hN=>?_);simp-dsimp-implicitDefEqProofs (disch:=omega)only[go_sem,prs,ints,rows,cubes,gd_i,gd_r,gd_c];refine AC.pure (.of (impl_IsGroupPrime_ok _)) ?_;try simp-dsimp-implicitDefEqProofs (disch:=omega)only[go_sem,prs,ints,rows,cubes,gd_i,gd_r,gd_c]
    refine gopB.mk' (fun h5=>?_) (fun h5=>?_)
    ·try simp only[cn]at h5
     have hpb:=pr4_bd h5
     have hmb:=mul_bd hp1 hp2 (show 1≤os.getD k 0 by omega) (show os.getD k 0≤7 by omega)
     try simp-dsimp-implicitDefEqProofs (disch:=omega)only[go_sem,prs,ints,rows,cubes,gd_i,gd_r,gd_c]
     refine hN _ ?_;try clear hN N
     refine AW.cond rfl (fun h6=>?_) (fun h6=>?_)
     ·try simp only[cn]at h6
      refine AW.sr envOk (fun N hN=>?_);simp-dsimp-implicitDefEqProofs (disch:=omega)only[go_sem,prs,ints,rows,cubes,gd_i,gd_r,gd_c];refine hN _ ?_;try clear hN N
      refine AW.ret ?_;simp-dsimp-implicitDefEqProofs (disch:=omega)only[go_sem];exact bt (tf_f (fun h=>by
       have h7:=prd_mono h.2.1 (k:=k+1) (os.length-(k+1)) (by omega)
       rw[show k+1+(os.length-(k+1))=os.length by omega]at h7
       have h8:prd os (k+1)=prd os k*os.getD k 0:=rfl
       have:=h.2.2.1
       omega)).symm
     try simp only[cn]at h6
     refine AW.skip ?_;simp only[thn,blk];refine hN5 _ ?_;try clear hN5 N5
     refine AW.regionL envOk ?_;simp-dsimp-implicitDefEqProofs (disch:=omega)only[go_sem,prs,ints,rows,cubes,gd_i,gd_r,gd_c];refine hN4 _ ?_;try clear hN4 N4
     refine AW.regionL envOk ?_;simp-dsimp-implicitDefEqProofs (disch:=omega)only[go_sem,prs,ints,rows,cubes,gd_i,gd_r,gd_c];refine⟨k+1,?_,fun _ _ h=>h,?_,?_⟩
     ·simp(disch:=omega) [wks,wkA,sl,prsP,w64,ints,rows,cubes,prd]<;>omega
     ·refine⟨by omega,fun j hj=>?_,hmb.1,h6⟩
      by_cases e:j=k
      ·subst e;exact h5
      exact hI j (by omega)
     first|omega|(simp only;omega)
    try simp only[cn]at h5
    try simp-dsimp-implicitDefEqProofs (disch:=omega)only[go_sem,prs,ints,rows,cubes,gd_i,gd_r,gd_c]
    refine hN _ ?_;try clear hN N
    refine AW.condT rfl ?_;refine AW.sr envOk (fun N hN=>?_);simp-dsimp-implicitDefEqProofs (disch:=omega)only[go_sem,prs,ints,rows,cubes,gd_i,gd_r,gd_c];refine hN _ ?_;try clear hN N
    refine AW.ret ?_;simp-dsimp-implicitDefEqProofs (disch:=omega)only[go_sem];exact bt (tf_f (fun h=>h5 (h.2.1 k (by omega)))).symm
   try simp only[cn]at h4
   have hpr:∀i,i<os.length→pr4 (os.getD i 0):=fun i hi=>hI i (by omega)
   have hob:=presOk.ob (pw:=pw) (cj:=cj) hpr
   obtain rfl:k=os.length:=by omega
   refine AW.exit ?_;simp only[thn,blk,if_true];refine hN2 _ ?_;try clear hN2 N2
   refine AW.seq (fun N6 hN6=>?_);refine AW.sr envOk (fun N hN=>?_);simp-dsimp-implicitDefEqProofs (disch:=omega)only[go_sem,prs,ints,rows,cubes,gd_i,gd_r,gd_c];refine hN _ ?_;try clear hN N
   refine AW.block ?_;refine AW.loopN (α:=Nat) (fun x=>sl 90 [(1,prsP os pw cj),(3,.i .i64 os.length),(49,.i .i64 os.length),(50,.i .i64 x)]) (fun _=>noH) (fun x m=>x≤os.length∧∀j,j<x→lvP os pw cj j) (fun x=>os.length-x) (0) ?_ ?_ (fun _ _ h=>h) ?_
   ·exact⟨by omega,by intro j hj;omega⟩
   ·simp(disch:=omega) [wks,wkA,sl,prsP,ints,rows,cubes]
   skip
   rintro q m ⟨hq,hJ⟩
   simp-dsimp-implicitDefEqProofs (disch:=omega)only[go_sem];simp only[prsP];refine AW.sr envOk (fun N hN=>?_);simp-dsimp-implicitDefEqProofs (disch:=omega)only[go_sem,prs,ints,rows,cubes,gd_i,gd_r,gd_c];refine hN _ ?_;try clear hN N
   refine AW.seq (fun N7 hN7=>?_);refine AW.cond rfl (fun h7=>?_) (fun h7=>?_)
   ·try simp only[cn]at h7
    have hv:=hl.r.v q
    have hr:=hl.r.r q
    refine AW.skip ?_;simp only[thn,blk];refine hN7 _ ?_;try clear hN7 N7
    refine AW.seq (fun N8 hN8=>?_);refine AW.block ?_;refine AW.sr envOk (fun N hN=>?_);simp-dsimp-implicitDefEqProofs (disch:=omega)only[go_sem,prs,ints,rows,cubes,gd_i,gd_r,gd_c];refine hN _ ?_;try clear hN N
    refine AW.seq (fun N9 hN9=>?_);refine AW.sr envOk (fun N hN=>?_);simp-dsimp-implicitDefEqProofs (disch:=omega)only[go_sem,prs,ints,rows,cubes,gd_i,gd_r,gd_c];refine AC.pure (.of (impl_tailVector_ok os pw cj q (by omega) (pw.getD q []) (by omega) hob (by omega))) ?_;try simp-dsimp-implicitDefEqProofs (disch:=omega)only[go_sem,prs,ints,rows,cubes,gd_i,gd_r,gd_c]
    refine gopB.mk' (fun h8=>?_) (fun h8=>?_)
    ·try simp only[cn]at h8
     try simp-dsimp-implicitDefEqProofs (disch:=omega)only[go_sem,prs,ints,rows,cubes,gd_i,gd_r,gd_c]
     refine hN _ ?_;try clear hN N
     refine AW.cond rfl (fun h9=>?_) (fun h9=>?_)
     ·try simp only[cn]at h9
      refine AW.sr envOk (fun N hN=>?_);simp-dsimp-implicitDefEqProofs (disch:=omega)only[go_sem,prs,ints,rows,cubes,gd_i,gd_r,gd_c];refine hN _ ?_;try clear hN N
      refine AW.ret ?_;simp-dsimp-implicitDefEqProofs (disch:=omega)only[go_sem];exact bt (tf_f (fun h=>h9 (by have:=(h.2.2.2 q (by omega)).2.1;omega))).symm
     try simp only[cn]at h9
     refine AW.skip ?_;simp only[thn,blk];refine hN9 _ ?_;try clear hN9 N9
     refine AW.sr envOk (fun N hN=>?_);simp-dsimp-implicitDefEqProofs (disch:=omega)only[go_sem,prs,ints,rows,cubes,gd_i,gd_r,gd_c];refine hN _ ?_;try clear hN N
     refine AW.block ?_;refine AW.loopN (α:=Nat) (fun x=>sl 90 [(1,prsP os pw cj),(3,.i .i64 os.length),(7,.i .i64 q),(49,.i .i64 os.length),(50,.i .i64 q),(78,rows (cj.getD q [])),(79,.i .i64 (cj.getD q []).length),(80,.i .i64 x)]) (fun _=>noH) (fun x m=>x≤(cj.getD q []).length∧∀j,j<x→xpP os ((cj.getD q []).getD j []) q) (fun x=>(cj.getD q []).length-x) (0) ?_ ?_ (fun _ _ h=>h) ?_
     ·exact⟨by omega,by intro j hj;omega⟩
     ·simp(disch:=omega) [wks,wkA,sl,prsP,ints,rows,cubes]
     skip
     rintro t m ⟨ht,hT⟩
     simp-dsimp-implicitDefEqProofs (disch:=omega)only[go_sem];simp only[prsP];refine AW.sr envOk (fun N hN=>?_);simp-dsimp-implicitDefEqProofs (disch:=omega)only[go_sem,prs,ints,rows,cubes,gd_i,gd_r,gd_c];refine hN _ ?_;try clear hN N
     refine AW.seq (fun N10 hN10=>?_);refine AW.cond rfl (fun h10=>?_) (fun h10=>?_)
     ·try simp only[cn]at h10
      have he:=hl.r.e q t
      refine AW.skip ?_;simp only[thn,blk];refine hN10 _ ?_;try clear hN10 N10
      refine AW.seq (fun N11 hN11=>?_);refine AW.block ?_;refine AW.sr envOk (fun N hN=>?_);simp-dsimp-implicitDefEqProofs (disch:=omega)only[go_sem,prs,ints,rows,cubes,gd_i,gd_r,gd_c];refine hN _ ?_;try clear hN N
      refine AW.sr envOk (fun N hN=>?_);simp-dsimp-implicitDefEqProofs (disch:=omega)only[go_sem,prs,ints,rows,cubes,gd_i,gd_r,gd_c];refine AC.pure (.of (impl_tailVector_ok os pw cj q (by omega) ((cj.getD q []).getD t []) (by omega) hob (by omega))) ?_;try simp-dsimp-implicitDefEqProofs (disch:=omega)only[go_sem,prs,ints,rows,cubes,gd_i,gd_r,gd_c]
      refine hN _ ?_;try clear hN N
      refine AW.cond rfl (fun h11=>?_) (fun h11=>?_)
      ·try simp only[cn]at h11
       refine AW.sr envOk (fun N hN=>?_);simp-dsimp-implicitDefEqProofs (disch:=omega)only[go_sem,prs,ints,rows,cubes,gd_i,gd_r,gd_c];refine hN _ ?_;try clear hN N
       refine AW.ret ?_;simp-dsimp-implicitDefEqProofs (disch:=omega)only[go_sem];exact bt (tf_f (fun h=>h11 ((h.2.2.2 q (by omega)).2.2 t (by omega)))).symm
      try simp only[cn]at h11
      refine AW.skip ?_;simp only[thn,blk];refine hN11 _ ?_;try clear hN11 N11
      refine AW.regionL envOk ?_;simp-dsimp-implicitDefEqProofs (disch:=omega)only[go_sem,prs,ints,rows,cubes,gd_i,gd_r,gd_c];refine⟨t+1,?_,fun _ _ h=>h,?_,?_⟩
      ·simp(disch:=omega) [wks,wkA,sl,prsP,w64,ints,rows,cubes]<;>omega
      ·refine⟨by omega,fun j hj=>?_⟩
       by_cases e:j=t
       ·subst e;exact h11
       exact hT j (by omega)
      first|omega|(simp only;omega)
     try simp only[cn]at h10
     refine AW.exit ?_;simp only[thn,blk,if_true];refine hN8 _ ?_;try clear hN8 N8
     refine AW.regionL envOk ?_;simp-dsimp-implicitDefEqProofs (disch:=omega)only[go_sem,prs,ints,rows,cubes,gd_i,gd_r,gd_c];refine⟨q+1,?_,fun _ _ h=>h,?_,?_⟩
     ·simp(disch:=omega) [wks,wkA,sl,prsP,w64,ints,rows,cubes]<;>omega
     ·refine⟨by omega,fun j hj=>?_⟩
      by_cases e:j=q
      ·subst e;exact⟨h8,by omega,fun i hi=>hT i (by omega)⟩
      exact hJ j (by omega)
     first|omega|(simp only;omega)
    try simp only[cn]at h8
    try simp-dsimp-implicitDefEqProofs (disch:=omega)only[go_sem,prs,ints,rows,cubes,gd_i,gd_r,gd_c]
    refine hN _ ?_;try clear hN N
    refine AW.condT rfl ?_;refine AW.sr envOk (fun N hN=>?_);simp-dsimp-implicitDefEqProofs (disch:=omega)only[go_sem,prs,ints,rows,cubes,gd_i,gd_r,gd_c];refine hN _ ?_;try clear hN N
    refine AW.ret ?_;simp-dsimp-implicitDefEqProofs (disch:=omega)only[go_sem];exact bt (tf_f (fun h=>h8 (h.2.2.2 q (by omega)).1)).symm
   try simp only[cn]at h7
   refine AW.exit ?_;simp only[thn,blk,if_true];refine hN6 _ ?_;try clear hN6 N6
   refine AW.sr envOk (fun N hN=>?_);simp-dsimp-implicitDefEqProofs (disch:=omega)only[go_sem,prs,ints,rows,cubes,gd_i,gd_r,gd_c];refine hN _ ?_;try clear hN N
   refine AW.ret ?_;simp-dsimp-implicitDefEqProofs (disch:=omega)only[go_sem];exact bt (tf_t ⟨⟨by omega,by omega,by omega⟩,hpr,hp2,fun i hi=>hJ i (by omega)⟩).symm
  try simp only[cn]at h2
  try simp-dsimp-implicitDefEqProofs (disch:=omega)only[go_sem,prs,ints,rows,cubes,gd_i,gd_r,gd_c]
  refine hN _ ?_;try clear hN N
  refine AW.condT rfl ?_;refine AW.sr envOk (fun N hN=>?_);simp-dsimp-implicitDefEqProofs (disch:=omega)only[go_sem,prs,ints,rows,cubes,gd_i,gd_r,gd_c];refine hN _ ?_;try clear hN N
  refine AW.ret ?_;simp-dsimp-implicitDefEqProofs (disch:=omega)only[go_sem];exact bt (tf_f (fun h=>h2 (by rw[h.1.2.1]))).symm
 try simp only[cn]at h1
 try simp-dsimp-implicitDefEqProofs (disch:=omega)only[go_sem,prs,ints,rows,cubes,gd_i,gd_r,gd_c]
 refine hN _ ?_;try clear hN N
 refine AW.condT rfl ?_;refine AW.sr envOk (fun N hN=>?_);simp-dsimp-implicitDefEqProofs (disch:=omega)only[go_sem,prs,ints,rows,cubes,gd_i,gd_r,gd_c];refine hN _ ?_;try clear hN N
 refine AW.ret ?_;simp-dsimp-implicitDefEqProofs (disch:=omega)only[go_sem];exact bt (tf_f (fun h=>by have:=h.1.1;omega)).symm
end Go.Proofs.YtghmeeifjeafmaaGreat
