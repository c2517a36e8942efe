import Derived.Test.YtghmeeifjeafmaaGreatZ23
set_option linter.unusedVariables false
set_option linter.unusedSimpArgs false
namespace Go.Proofs.YtghmeeifjeafmaaGreat
open Nat (reduceAdd reduceSub reduceGT reduceEqDiff reduceMul)
def FT (p:Prop) (r:AV):Prop:=(p∧r= .g [.i .i64 0,.i .i64 0,.i .i64 0,.i .i64 0])∨(¬p∧∃k l a b:Int,k≠0∧r= .g [.i .i64 k,.i .i64 l,.i .i64 a,.i .i64 b])
set_option maxRecDepth 20000 in
set_option maxHeartbeats 4000000 in
theorem impl_levelFault_ok (os:List Int) (pw:List (List Int)) (cj:List (List (List Int))) (h:presOk os pw cj) (i:Nat) (hi:i<os.length) (hc:Con (pc os pw cj) (i+1)) (nx:Nat) (H:HP):AC Tryz.prog 111 nx H [prsP os pw cj,.i .i64 i] (fun nx' H' r=>H'=H∧FT (Cond (pc os pw cj) i) r):=by
 have hv:=h.val
 have hg:=con_grp hv hc
 have hn6:=h.1.1
 have hpl:=h.1.2.1
 have hcl:=h.1.2.2
 have hcl2:=(h.2.2.2 i hi).2.1
 have e2:AV.v (pw.getD i []).length (List.map (AV.i IntKind.i64) (pw.getD i []))=vi os.length ((pc os pw cj).pw i):=ints_vi (h.pwl hi)
 have im:=fun {a:V}=>img_T (P:=pc os pw cj) (i:=i) hv (fun _ _=>M_T hv) a
 refine AC.introx envOk Tryz.func111 rfl (by kernel_rfl) Tryz.ntmps111 Tryz.results111 (fun hfr cX=>?_)
 refine AW.sr envOk (fun N hN=>?_);simp-dsimp-implicitDefEqProofs (disch:=omega)only[go_sem,prsP,ints,rows,cubes,gd_i,gd_r,gd_c,vi];refine hN _ ?_;try clear hN N
 refine AW.sr envOk (fun N hN=>?_);simp-dsimp-implicitDefEqProofs (disch:=omega)only[go_sem,prsP,ints,rows,cubes,gd_i,gd_r,gd_c,vi];refine hN _ ?_;try clear hN N
 refine AW.sr envOk (fun N hN=>?_);simp-dsimp-implicitDefEqProofs (disch:=omega)only[go_sem,prsP,ints,rows,cubes,gd_i,gd_r,gd_c,vi];refine hN _ ?_;try clear hN N
 refine AW.seq (fun N1 hN1=>?_);refine AW.sr envOk (fun N hN=>?_);simp-dsimp-implicitDefEqProofs (disch:=omega)only[go_sem,prsP,ints,rows,cubes,gd_i,gd_r,gd_c,vi];refine hN _ ?_;try clear hN N
 refine AW.block ?_;refine AW.loopN (α:=Nat) (fun x=>sl 180 [(0,prsP os pw cj),(1,.i .i64 i),(4,.q nx 0),(5,.i .i64 os.length),(6,.i .i64 i),(7,.i .i64 x)]) (fun _=>upd H nx (some [.i .i64 0,.i .i64 0,.i .i64 0,.i .i64 0])) (fun x m=>(i+1≤x∧x≤os.length)∧∀j,i<j→j<x→rep (M (pc os pw cj) (i+1)) ((pc os pw cj).cj i j) ((pc os pw cj).o j).toNat=img (pc os pw cj) (M (pc os pw cj) (i+1)) i ((pc os pw cj).pw j)) (fun x=>os.length-x) (i+1) ?_ ?_ (fun _ _ h=>h) ?_
 ·exact⟨⟨Nat.le_refl _,hi⟩,by intro j h1 h2;omega⟩
 ·simp(disch:=omega) [wks,wkA,sl,prsP,ints,rows,cubes,vi]
 skip
 rintro j m ⟨⟨hj1,hj2⟩,hI⟩
 simp only[prsP];simp-dsimp-implicitDefEqProofs (disch:=omega)only[go_sem];refine AW.seq (fun N2 hN2=>?_);refine AW.sr envOk (fun N hN=>?_);simp-dsimp-implicitDefEqProofs (disch:=omega)only[go_sem,prsP,ints,rows,cubes,gd_i,gd_r,gd_c,vi];refine hN _ ?_;try clear hN N
 refine AW.cond rfl (fun h1=>?_) (fun h1=>?_)
 ·try simp only[cn]at h1
  have ej:((j:Int)-i-1).toNat=j-i-1:=by omega
  have e1:AV.v ((cj.getD i []).getD (j-i-1) []).length (List.map (AV.i IntKind.i64) ((cj.getD i []).getD (j-i-1) []))=vi os.length ((pc os pw cj).cj i j):=ints_vi (h.cjl (by omega) (by omega))
  have e3:AV.v (pw.getD j []).length (List.map (AV.i IntKind.i64) (pw.getD j []))=vi os.length ((pc os pw cj).pw j):=ints_vi (h.pwl (by omega))
  have hoj:=h.o7 (show j<os.length by omega)
  have hoj':(pc os pw cj).o j=os.getD j 0:=rfl
  have tj:=hv.cj i j (by omega) (show j<os.length by omega)
  have tp:=(hv.pw j (show j<os.length by omega)).mono hv (show i+1≤j+1 by omega)
  refine AW.skip ?_;simp only[thn,blk];refine hN2 _ ?_;try clear hN2 N2
  refine AW.seq (fun N3 hN3=>?_);refine AW.block ?_;refine AW.seq (fun N hN=>?_);refine AW.drawL envOk (by kernel_rfl) 34 (by kernel_rfl) ?_
  simp-dsimp-implicitDefEqProofs (disch:=omega)only[hr_nil,hr_one,hr_if,List.take_succ_cons,List.take_zero,List.drop_succ_cons,List.drop_zero,List.take_nil,List.drop_nil,go_sem,undef,prsP,ints,rows,cubes,gd_i,gd_r,gd_c,w64,vi,ej];rw[e1]
  refine⟨_,.of (impl_power_i h (i+1) hc _ tj _ (by omega) (by omega)),?_⟩
  try simp-dsimp-implicitDefEqProofs (disch:=omega)only[go_sem,prsP,ints,rows,cubes,gd_i,gd_r,gd_c,vi]
  rw[e3]
  refine⟨_,.of ((impl_imageBy_ok os pw cj h i hi hc _ tp).pure),?_⟩
  try simp-dsimp-implicitDefEqProofs (disch:=omega)only[go_sem,prsP,ints,rows,cubes,gd_i,gd_r,gd_c,vi]
  refine⟨_,.of (slices_Equal_T (by omega) (hg.rep tj _) im),?_⟩
  try simp-dsimp-implicitDefEqProofs (disch:=omega)only[go_sem,prsP,ints,rows,cubes,gd_i,gd_r,gd_c,vi]
  refine hN _ ?_;try clear hN N
  refine AW.cond rfl (fun h2=>?_) (fun h2=>?_)
  ·try simp only[cn]at h2
   refine AW.sr envOk (fun N hN=>?_);simp-dsimp-implicitDefEqProofs (disch:=omega)only[go_sem,prsP,ints,rows,cubes,gd_i,gd_r,gd_c,vi];refine hN _ ?_;try clear hN N
   refine AW.ret ?_;simp-dsimp-implicitDefEqProofs (disch:=omega)only[go_sem];refine⟨H,by have:=hfr nx (by omega);intro d cs hd;simp only[upd];grind,rfl,?_⟩
   exact .inr ⟨fun q=>h2 (q.pw j (by omega) (show j<os.length by omega)),_,_,_,_,by omega,rfl⟩
  try simp only[cn]at h2
  refine AW.skip ?_;simp only[thn,blk];refine hN3 _ ?_;try clear hN3 N3
  refine AW.regionL envOk ?_;simp-dsimp-implicitDefEqProofs (disch:=omega)only[go_sem,prsP,ints,rows,cubes,gd_i,gd_r,gd_c,vi];refine⟨j+1,?_,fun _ _ h=>h,?_,?_⟩
  ·simp(disch:=omega) [wks,wkA,sl,prsP,w64,ints,rows,cubes,vi]<;>omega
  ·refine⟨by omega,fun k q1 q2=>?_⟩
   by_cases e:k=j
   ·subst e;exact h2
   exact hI k q1 (by omega)
  first|omega|(simp only;omega)
 try simp only[cn]at h1
 have hI1:∀j,i<j→j<os.length→rep (M (pc os pw cj) (i+1)) ((pc os pw cj).cj i j) ((pc os pw cj).o j).toNat=img (pc os pw cj) (M (pc os pw cj) (i+1)) i ((pc os pw cj).pw j):=fun k q1 q2=>hI k q1 (by omega)
 refine AW.exit ?_;simp only[thn,blk,if_true];refine hN1 _ ?_;try clear hN1 N1
 refine AW.seq (fun N4 hN4=>?_);refine AW.sr envOk (fun N hN=>?_);simp-dsimp-implicitDefEqProofs (disch:=omega)only[go_sem,prsP,ints,rows,cubes,gd_i,gd_r,gd_c,vi];refine hN _ ?_;try clear hN N
 refine AW.block ?_;refine AW.loopN (α:=Nat) (fun x=>sl 180 [(0,prsP os pw cj),(1,.i .i64 i),(4,.q nx 0),(5,.i .i64 os.length),(6,.i .i64 i),(8,.i .i64 x)]) (fun _=>upd H nx (some [.i .i64 0,.i .i64 0,.i .i64 0,.i .i64 0])) (fun x m=>(i+1≤x∧x≤os.length)∧∀j k,i<j→j<x→j<k→k<os.length→M (pc os pw cj) (i+1) ((pc os pw cj).cj i k) ((pc os pw cj).cj i j)=M (pc os pw cj) (i+1) ((pc os pw cj).cj i j) (img (pc os pw cj) (M (pc os pw cj) (i+1)) i ((pc os pw cj).cj j k))) (fun x=>os.length-x) (i+1) ?_ ?_ (fun _ _ h=>h) ?_
 ·exact⟨⟨Nat.le_refl _,hi⟩,by intro j k h1 h2;omega⟩
 ·simp(disch:=omega) [wks,wkA,sl,prsP,ints,rows,cubes,vi]
 skip
 rintro j m ⟨⟨hj1,hj2⟩,hI⟩
 simp only[prsP];simp-dsimp-implicitDefEqProofs (disch:=omega)only[go_sem];refine AW.seq (fun N5 hN5=>?_);refine AW.sr envOk (fun N hN=>?_);simp-dsimp-implicitDefEqProofs (disch:=omega)only[go_sem,prsP,ints,rows,cubes,gd_i,gd_r,gd_c,vi];refine hN _ ?_;try clear hN N
 refine AW.cond rfl (fun h3=>?_) (fun h3=>?_)
 ·try simp only[cn]at h3
  refine AW.skip ?_;simp only[thn,blk];refine hN5 _ ?_;try clear hN5 N5
  refine AW.seq (fun N6 hN6=>?_);refine AW.block ?_;refine AW.sr envOk (fun N hN=>?_);simp-dsimp-implicitDefEqProofs (disch:=omega)only[go_sem,prsP,ints,rows,cubes,gd_i,gd_r,gd_c,vi];refine hN _ ?_;try clear hN N
  refine AW.block ?_;refine AW.loopN (α:=Nat) (fun x=>sl 180 [(0,prsP os pw cj),(1,.i .i64 i),(4,.q nx 0),(5,.i .i64 os.length),(6,.i .i64 i),(8,.i .i64 j),(9,.i .i64 x)]) (fun _=>upd H nx (some [.i .i64 0,.i .i64 0,.i .i64 0,.i .i64 0])) (fun x m=>(j+1≤x∧x≤os.length)∧∀k,j<k→k<x→M (pc os pw cj) (i+1) ((pc os pw cj).cj i k) ((pc os pw cj).cj i j)=M (pc os pw cj) (i+1) ((pc os pw cj).cj i j) (img (pc os pw cj) (M (pc os pw cj) (i+1)) i ((pc os pw cj).cj j k))) (fun x=>os.length-x) (j+1) ?_ ?_ (fun _ _ h=>h) ?_
  ·exact⟨⟨Nat.le_refl _,by omega⟩,by intro k h1 h2;omega⟩
  ·simp(disch:=omega) [wks,wkA,sl,prsP,ints,rows,cubes,vi]
  skip
  rintro k m ⟨⟨hk1,hk2⟩,hK⟩
  simp only[prsP];simp-dsimp-implicitDefEqProofs (disch:=omega)only[go_sem];refine AW.seq (fun N7 hN7=>?_);refine AW.sr envOk (fun N hN=>?_);simp-dsimp-implicitDefEqProofs (disch:=omega)only[go_sem,prsP,ints,rows,cubes,gd_i,gd_r,gd_c,vi];refine hN _ ?_;try clear hN N
  refine AW.cond rfl (fun h4=>?_) (fun h4=>?_)
  ·try simp only[cn]at h4
   have ej:((j:Int)-i-1).toNat=j-i-1:=by omega
   have ek:((k:Int)-i-1).toNat=k-i-1:=by omega
   have ejk:((k:Int)-j-1).toNat=k-j-1:=by omega
   have e1:AV.v ((cj.getD i []).getD (j-i-1) []).length (List.map (AV.i IntKind.i64) ((cj.getD i []).getD (j-i-1) []))=vi os.length ((pc os pw cj).cj i j):=ints_vi (h.cjl (by omega) (by omega))
   have e3:AV.v ((cj.getD i []).getD (k-i-1) []).length (List.map (AV.i IntKind.i64) ((cj.getD i []).getD (k-i-1) []))=vi os.length ((pc os pw cj).cj i k):=ints_vi (h.cjl (by omega) (by omega))
   have e4:AV.v ((cj.getD j []).getD (k-j-1) []).length (List.map (AV.i IntKind.i64) ((cj.getD j []).getD (k-j-1) []))=vi os.length ((pc os pw cj).cj j k):=ints_vi (h.cjl (by omega) (by omega))
   have hclj:=(h.2.2.2 j (by omega)).2.1
   have tj:=hv.cj i j (by omega) (show j<os.length by omega)
   have tk:=hv.cj i k (by omega) (show k<os.length by omega)
   have tjk:=(hv.cj j k (by omega) (show k<os.length by omega)).mono hv (show i+1≤j+1 by omega)
   have tcc:=hg.cl (inv_T hg tj).1 (hg.cl tk tj)
   refine AW.skip ?_;simp only[thn,blk];refine hN7 _ ?_;try clear hN7 N7
   refine AW.seq (fun N8 hN8=>?_);refine AW.block ?_;refine AW.seq (fun N hN=>?_);refine AW.drawL envOk (by kernel_rfl) 46 (by kernel_rfl) ?_
   simp-dsimp-implicitDefEqProofs (disch:=omega)only[hr_nil,hr_one,hr_if,List.take_succ_cons,List.take_zero,List.drop_succ_cons,List.drop_zero,List.take_nil,List.drop_nil,go_sem,undef,prsP,ints,rows,cubes,gd_i,gd_r,gd_c,w64,vi,ej,ek,ejk,e1,e3,e4];refine⟨_,.of ((impl_conjugate_ok os pw cj h (i+1) hc _ _ tk tj).pure),?_⟩
   try simp-dsimp-implicitDefEqProofs (disch:=omega)only[go_sem,prsP,ints,rows,cubes,gd_i,gd_r,gd_c,vi]
   rw[show((k:Int)-j-1).toNat=k-j-1 from ejk,e4]
   refine⟨_,.of ((impl_imageBy_ok os pw cj h i hi hc _ tjk).pure),?_⟩
   try simp-dsimp-implicitDefEqProofs (disch:=omega)only[go_sem,prsP,ints,rows,cubes,gd_i,gd_r,gd_c,vi]
   refine⟨_,.of (slices_Equal_T (by omega) tcc im),?_⟩
   try simp-dsimp-implicitDefEqProofs (disch:=omega)only[go_sem,prsP,ints,rows,cubes,gd_i,gd_r,gd_c,vi]
   refine hN _ ?_;try clear hN N
   refine AW.cond rfl (fun h5=>?_) (fun h5=>?_)
   ·try simp only[cn]at h5
    refine AW.sr envOk (fun N hN=>?_);simp-dsimp-implicitDefEqProofs (disch:=omega)only[go_sem,prsP,ints,rows,cubes,gd_i,gd_r,gd_c,vi];refine hN _ ?_;try clear hN N
    refine AW.ret ?_;simp-dsimp-implicitDefEqProofs (disch:=omega)only[go_sem];refine⟨H,by have:=hfr nx (by omega);intro d cs hd;simp only[upd];grind,rfl,?_⟩
    exact .inr ⟨fun q=>h5 ((conj_iff hg tk tj im).2 (q.cj j k (by omega) (by omega) (show k<os.length by omega))),_,_,_,_,by omega,rfl⟩
   try simp only[cn]at h5
   refine AW.skip ?_;simp only[thn,blk];refine hN8 _ ?_;try clear hN8 N8
   refine AW.regionL envOk ?_;simp-dsimp-implicitDefEqProofs (disch:=omega)only[go_sem,prsP,ints,rows,cubes,gd_i,gd_r,gd_c,vi];refine⟨k+1,?_,fun _ _ h=>h,?_,?_⟩
   ·simp(disch:=omega) [wks,wkA,sl,prsP,w64,ints,rows,cubes,vi]<;>omega
   ·refine⟨by omega,fun t q1 q2=>?_⟩
    by_cases e:t=k
    ·subst e;exact(conj_iff hg tk tj im).1 h5
    exact hK t q1 (by omega)
   first|omega|(simp only;omega)
  try simp only[cn]at h4
  refine AW.exit ?_;simp only[thn,blk,if_true];refine hN6 _ ?_;try clear hN6 N6
  refine AW.regionL envOk ?_;simp-dsimp-implicitDefEqProofs (disch:=omega)only[go_sem,prsP,ints,rows,cubes,gd_i,gd_r,gd_c,vi];refine⟨j+1,?_,fun _ _ h=>h,?_,?_⟩
  ·simp(disch:=omega) [wks,wkA,sl,prsP,w64,ints,rows,cubes,vi]<;>omega
  ·refine⟨by omega,fun t k' q1 q2 q3 q4=>?_⟩
   by_cases e:t=j
   ·subst e;exact hK k' q3 (by omega)
   exact hI t k' q1 (by omega) q3 q4
  first|omega|(simp only;omega)
 try simp only[cn]at h3
 have hI2:∀j k,i<j→j<k→k<os.length→M (pc os pw cj) (i+1) ((pc os pw cj).cj i k) ((pc os pw cj).cj i j)=M (pc os pw cj) (i+1) ((pc os pw cj).cj i j) (img (pc os pw cj) (M (pc os pw cj) (i+1)) i ((pc os pw cj).cj j k)):=fun t k q1 q2 q3=>hI t k q1 (by omega) q2 q3
 refine AW.exit ?_;simp only[thn,blk,if_true];refine hN4 _ ?_;try clear hN4 N4
 refine AW.sr envOk (fun N hN=>?_);simp-dsimp-implicitDefEqProofs (disch:=omega)only[go_sem,prsP,ints,rows,cubes,gd_i,gd_r,gd_c,vi,e2];refine hN _ ?_;try clear hN N
 refine AW.seq (fun N9 hN9=>?_);refine AW.sr envOk (fun N hN=>?_);simp-dsimp-implicitDefEqProofs (disch:=omega)only[go_sem,prsP,ints,rows,cubes,gd_i,gd_r,gd_c,vi];refine AC.pure (.of ((impl_imageBy_ok os pw cj h i hi hc _ (hv.pw i hi)).pure)) ?_;try simp-dsimp-implicitDefEqProofs (disch:=omega)only[go_sem,prsP,ints,rows,cubes,gd_i,gd_r,gd_c,vi]
 refine AC.pure (.of (slices_Equal_T (by omega) im (hv.pw i hi))) ?_;try simp-dsimp-implicitDefEqProofs (disch:=omega)only[go_sem,prsP,ints,rows,cubes,gd_i,gd_r,gd_c,vi]
 refine hN _ ?_;try clear hN N
 refine AW.cond rfl (fun h6=>?_) (fun h6=>?_)
 ·try simp only[cn]at h6
  refine AW.sr envOk (fun N hN=>?_);simp-dsimp-implicitDefEqProofs (disch:=omega)only[go_sem,prsP,ints,rows,cubes,gd_i,gd_r,gd_c,vi];refine hN _ ?_;try clear hN N
  refine AW.ret ?_;simp-dsimp-implicitDefEqProofs (disch:=omega)only[go_sem];refine⟨H,by have:=hfr nx (by omega);intro d cs hd;simp only[upd];grind,rfl,?_⟩
  exact .inr ⟨fun q=>h6 q.fx,_,_,_,_,by omega,rfl⟩
 try simp only[cn]at h6
 refine AW.skip ?_;simp only[thn,blk];refine hN9 _ ?_;try clear hN9 N9
 refine AW.seq (fun N10 hN10=>?_);refine AW.sr envOk (fun N hN=>?_);simp-dsimp-implicitDefEqProofs (disch:=omega)only[go_sem,prsP,ints,rows,cubes,gd_i,gd_r,gd_c,vi];refine hN _ ?_;try clear hN N
 refine AW.block ?_;refine AW.loopN (α:=Nat) (fun x=>sl 180 [(0,prsP os pw cj),(1,.i .i64 i),(4,.q nx 0),(5,.i .i64 os.length),(6,.i .i64 i),(10,vi os.length ((pc os pw cj).pw i)),(11,.i .i64 x)]) (fun _=>upd H nx (some [.i .i64 0,.i .i64 0,.i .i64 0,.i .i64 0])) (fun x m=>(i+1≤x∧x≤os.length)∧∀j,i<j→j<x→M (pc os pw cj) (i+1) ((pc os pw cj).pw i) (itr (img (pc os pw cj) (M (pc os pw cj) (i+1)) i) ((pc os pw cj).o i).toNat (un j))=M (pc os pw cj) (i+1) (un j) ((pc os pw cj).pw i)) (fun x=>os.length-x) (i+1) ?_ ?_ (fun _ _ h=>h) ?_
 ·exact⟨⟨Nat.le_refl _,hi⟩,by intro j h1 h2;omega⟩
 ·simp(disch:=omega) [wks,wkA,sl,prsP,ints,rows,cubes,vi]
 skip
 rintro j m ⟨⟨hj1,hj2⟩,hI⟩
 simp only[prsP,vi];simp-dsimp-implicitDefEqProofs (disch:=omega)only[go_sem];refine AW.seq (fun N11 hN11=>?_);refine AW.sr envOk (fun N hN=>?_);simp-dsimp-implicitDefEqProofs (disch:=omega)only[go_sem,prsP,ints,rows,cubes,gd_i,gd_r,gd_c,vi];refine hN _ ?_;try clear hN N
 refine AW.cond rfl (fun h7=>?_) (fun h7=>?_)
 ·try simp only[cn]at h7
  have tu:=un_T hv (show i+1≤j by omega) (show j<os.length by omega)
  have hoi:=h.o7 hi
  have hoi':(pc os pw cj).o i=os.getD i 0:=rfl
  refine AW.skip ?_;simp only[thn,blk];refine hN11 _ ?_;try clear hN11 N11
  refine AW.seq (fun N12 hN12=>?_);refine AW.block ?_;refine AW.sr envOk (fun N hN=>?_);simp-dsimp-implicitDefEqProofs (disch:=omega)only[go_sem,prsP,ints,rows,cubes,gd_i,gd_r,gd_c,vi];refine AC.pure (.of (impl_unitVector_v os.length j (by omega) (by omega))) ?_;try simp-dsimp-implicitDefEqProofs (disch:=omega)only[go_sem,prsP,ints,rows,cubes,gd_i,gd_r,gd_c,vi]
  refine hN _ ?_;try clear hN N
  refine AW.seq (fun N13 hN13=>?_);refine AW.sr envOk (fun N hN=>?_);simp-dsimp-implicitDefEqProofs (disch:=omega)only[go_sem,prsP,ints,rows,cubes,gd_i,gd_r,gd_c,vi];refine hN _ ?_;try clear hN N
  refine AW.block ?_;refine AW.loopN (α:=Nat×V) (fun x=>sl 180 [(0,prsP os pw cj),(1,.i .i64 i),(4,.q nx 0),(5,.i .i64 os.length),(6,.i .i64 i),(10,vi os.length ((pc os pw cj).pw i)),(11,.i .i64 j),(12,vi os.length x.2),(159,.i .i64 (os.getD i 0)),(160,.i .i64 x.1)]) (fun _=>upd H nx (some [.i .i64 0,.i .i64 0,.i .i64 0,.i .i64 0])) (fun x m=>x.1≤(os.getD i 0).toNat∧T (pc os pw cj) (i+1) x.2∧x.2=itr (img (pc os pw cj) (M (pc os pw cj) (i+1)) i) x.1 (un j)) (fun x=>(os.getD i 0).toNat-x.1) ((0,un j)) ?_ ?_ (fun _ _ h=>h) ?_
  ·exact⟨Nat.zero_le _,tu,rfl⟩
  ·simp(disch:=omega) [wks,wkA,sl,prsP,ints,rows,cubes,vi]
  skip
  rintro⟨q,w⟩ m ⟨hq,hw,he⟩
  dsimp only at hq hw he
  simp only[prsP,vi];simp-dsimp-implicitDefEqProofs (disch:=omega)only[go_sem];refine AW.sr envOk (fun N hN=>?_);simp-dsimp-implicitDefEqProofs (disch:=omega)only[go_sem,prsP,ints,rows,cubes,gd_i,gd_r,gd_c,vi];refine hN _ ?_;try clear hN N
  refine AW.seq (fun N14 hN14=>?_);refine AW.cond rfl (fun h8=>?_) (fun h8=>?_)
  ·try simp only[cn]at h8
   refine AW.skip ?_;simp only[thn,blk];refine hN14 _ ?_;try clear hN14 N14
   refine AW.seq (fun N15 hN15=>?_);refine AW.block ?_;refine AW.regionL envOk ?_;simp-dsimp-implicitDefEqProofs (disch:=omega)only[go_sem,prsP,ints,rows,cubes,gd_i,gd_r,gd_c,vi];refine AC.pure (.of ((impl_imageBy_ok os pw cj h i hi hc _ hw).pure)) ?_;try simp-dsimp-implicitDefEqProofs (disch:=omega)only[go_sem,prsP,ints,rows,cubes,gd_i,gd_r,gd_c,vi]
   refine hN15 _ ?_;try clear hN15 N15
   refine AW.regionL envOk ?_;simp-dsimp-implicitDefEqProofs (disch:=omega)only[go_sem,prsP,ints,rows,cubes,gd_i,gd_r,gd_c,vi];refine⟨(q+1,img (pc os pw cj) (M (pc os pw cj) (i+1)) i w),?_,fun _ _ h=>h,?_,?_⟩
   ·simp(disch:=omega) [wks,wkA,sl,prsP,w64,ints,rows,cubes,vi]<;>omega
   ·exact⟨by first|omega|(simp only;omega)|(dsimp only;omega),im,by rw[he];rfl⟩
   first|omega|(simp only;omega)
  try simp only[cn]at h8
  obtain rfl:q=(os.getD i 0).toNat:=by omega
  have tp:=hv.pw i hi
  have tcc:=hg.cl (inv_T hg tp).1 (hg.cl tu tp)
  refine AW.exit ?_;simp only[thn,blk,if_true];refine hN13 _ ?_;try clear hN13 N13
  refine AW.sr envOk (fun N hN=>?_);simp-dsimp-implicitDefEqProofs (disch:=omega)only[go_sem,prsP,ints,rows,cubes,gd_i,gd_r,gd_c,vi];refine AC.pure (.of (impl_unitVector_v os.length j (by omega) (by omega))) ?_;try simp-dsimp-implicitDefEqProofs (disch:=omega)only[go_sem,prsP,ints,rows,cubes,gd_i,gd_r,gd_c,vi]
  refine AC.pure (.of ((impl_conjugate_ok os pw cj h (i+1) hc _ _ tu tp).pure)) ?_;try simp-dsimp-implicitDefEqProofs (disch:=omega)only[go_sem,prsP,ints,rows,cubes,gd_i,gd_r,gd_c,vi]
  refine AC.pure (.of (slices_Equal_T (by omega) hw tcc)) ?_;try simp-dsimp-implicitDefEqProofs (disch:=omega)only[go_sem,prsP,ints,rows,cubes,gd_i,gd_r,gd_c,vi]
  refine hN _ ?_;try clear hN N
  refine AW.cond rfl (fun h9=>?_) (fun h9=>?_)
  ·try simp only[cn]at h9
   refine AW.sr envOk (fun N hN=>?_);simp-dsimp-implicitDefEqProofs (disch:=omega)only[go_sem,prsP,ints,rows,cubes,gd_i,gd_r,gd_c,vi];refine hN _ ?_;try clear hN N
   refine AW.ret ?_;simp-dsimp-implicitDefEqProofs (disch:=omega)only[go_sem];refine⟨H,by have:=hfr nx (by omega);intro d cs hd;simp only[upd];grind,rfl,?_⟩
   rw[he]at h9
   exact .inr ⟨fun q=>h9 ((conj_iff hg tu tp (he▸hw)).2 (q.inn j (by omega) (show j<os.length by omega)).symm).symm,_,_,_,_,by omega,rfl⟩
  try simp only[cn]at h9
  refine AW.skip ?_;simp only[thn,blk];refine hN12 _ ?_;try clear hN12 N12
  refine AW.regionL envOk ?_;simp-dsimp-implicitDefEqProofs (disch:=omega)only[go_sem,prsP,ints,rows,cubes,gd_i,gd_r,gd_c,vi];refine⟨j+1,?_,fun _ _ h=>h,?_,?_⟩
  ·simp(disch:=omega) [wks,wkA,sl,prsP,w64,ints,rows,cubes,vi]<;>omega
  ·refine⟨by omega,fun k q1 q2=>?_⟩
   by_cases e:k=j
   ·subst e;rw[he]at h9;exact((conj_iff hg tu tp (he▸hw)).1 h9.symm).symm
   exact hI k q1 (by omega)
  first|omega|(simp only;omega)
 try simp only[cn]at h7
 refine AW.exit ?_;simp only[thn,blk,if_true];refine hN10 _ ?_;try clear hN10 N10
 refine AW.sr envOk (fun N hN=>?_);simp-dsimp-implicitDefEqProofs (disch:=omega)only[go_sem,prsP,ints,rows,cubes,gd_i,gd_r,gd_c,vi];refine hN _ ?_;try clear hN N
 refine AW.ret ?_;simp-dsimp-implicitDefEqProofs (disch:=omega)only[go_sem];refine⟨H,by have:=hfr nx (by omega);intro d cs hd;simp only[upd];grind,rfl,?_⟩
 exact .inl ⟨⟨fun j q1 q2=>hI1 j q1 q2,fun j k q1 q2 q3=>hI2 j k q1 q2 q3,h6,fun j q1 q2=>hI j q1 (by have:j<os.length:=q2;omega)⟩,rfl⟩
open Nat (reduceAdd reduceSub reduceGT reduceEqDiff reduceMul)
theorem impl_consistentFrom_ok (os:List Int) (pw:List (List Int)) (cj:List (List (List Int))) (h:presOk os pw cj) (nx:Nat) (H:HP):AC Tryz.prog 72 nx H [prsP os pw cj] (fun _ H' r=>H=H'∧∃x:Nat,r= .i .i64 x∧(x=0↔Con (pc os pw cj) 0)):=by
 have hv:=h.val
 have hn6:=h.1.1
 refine AC.introx envOk Tryz.func72 rfl (by kernel_rfl) Tryz.ntmps72 Tryz.results72 (fun hfr cX=>?_)
 refine AW.sr envOk (fun N hN=>?_);simp-dsimp-implicitDefEqProofs (disch:=omega)only[go_sem,prsP,ints,rows,cubes];refine hN _ ?_;try clear hN N
 refine AW.sr envOk (fun N hN=>?_);simp-dsimp-implicitDefEqProofs (disch:=omega)only[go_sem,prsP,ints,rows,cubes];refine hN _ ?_;try clear hN N
 refine AW.seq (fun N1 hN1=>?_);refine AW.block ?_;refine AW.loopN (α:=Nat) (fun x=>sl 22 [(0,prsP os pw cj),(3,.i .i64 x)]) (fun _=>H) (fun x m=>x≤os.length∧Con (pc os pw cj) x) (fun x=>x) (os.length) ?_ ?_ (fun _ _ h=>h) ?_
 ·exact⟨Nat.le_refl _,fun i h1 h2=>absurd h2 (by have:(pc os pw cj).n=os.length:=rfl;omega)⟩
 ·simp(disch:=omega) [wks,wkA,sl,prsP,ints,rows,cubes]
 skip
 rintro x m ⟨hx,hI⟩
 simp only[prsP];simp-dsimp-implicitDefEqProofs (disch:=omega)only[go_sem];refine AW.seq (fun N2 hN2=>?_);refine AW.sr envOk (fun N hN=>?_);simp-dsimp-implicitDefEqProofs (disch:=omega)only[go_sem,prsP,ints,rows,cubes];refine gopB.mk' (fun h1=>?_) (fun h1=>?_)
 ·try simp only[cn]at h1
  obtain⟨i,rfl⟩:∃i,x=i+1:=⟨x-1,by omega⟩
  try simp-dsimp-implicitDefEqProofs (disch:=omega)only[go_sem,prsP,ints,rows,cubes]
  rw[show((i+1:Nat):Int)-1=i by omega]
  refine(impl_levelFault_ok os pw cj h i (by omega) hI _ _).mono2 ?_
  rintro m1 H1 r1 hm1 ⟨rfl,(⟨hC,rfl⟩|⟨hC,k,l,a,b,hk,rfl⟩)⟩
  ·skip
   try simp-dsimp-implicitDefEqProofs (disch:=omega)only[go_sem,]
   refine hN _ ?_;try clear hN N
   refine AW.cond rfl (fun h2=>?_) (fun h2=>?_)
   ·try simp only[cn]at h2
    refine AW.skip ?_;simp only[thn,blk];refine hN2 _ ?_;try clear hN2 N2
    refine AW.block ?_;refine AW.regionL envOk ?_;simp-dsimp-implicitDefEqProofs (disch:=omega)only[go_sem,prsP,ints,rows,cubes];refine⟨i,?_,fun _ _ h=>h,?_,?_⟩
    ·simp(disch:=omega) [wks,wkA,sl,prsP,w64,ints,rows,cubes]<;>omega
    ·refine⟨by first|omega|(simp only;omega)|(dsimp only;omega),fun t q1 q2=>?_⟩
     by_cases e:t=i
     ·subst e;exact hC
     exact hI t (by omega) q2
    first|omega|(simp only;omega)
   try simp only[cn]at h2
   simp at h2
  skip
  try simp-dsimp-implicitDefEqProofs (disch:=omega)only[go_sem,]
  refine hN _ ?_;try clear hN N
  refine AW.cond rfl (fun h3=>?_) (fun h3=>?_)
  ·try simp only[cn]at h3
   exact absurd h3.1 hk
  try simp only[cn]at h3
  refine AW.exit ?_;simp only[thn,blk,if_true];refine hN1 _ ?_;try clear hN1 N1
  refine AW.sr envOk (fun N hN=>?_);simp-dsimp-implicitDefEqProofs (disch:=omega)only[go_sem,prsP,ints,rows,cubes];refine hN _ ?_;try clear hN N
  refine AW.ret ?_;simp-dsimp-implicitDefEqProofs (disch:=omega)only[go_sem];exact⟨_,Le.refl _,rfl,i+1,rfl,⟨fun q=>by omega,fun q=>absurd (q i (Nat.zero_le _) (show i<os.length by omega)) hC⟩⟩
 try simp only[cn]at h1
 try simp-dsimp-implicitDefEqProofs (disch:=omega)only[go_sem,prsP,ints,rows,cubes]
 refine hN _ ?_;try clear hN N
 refine AW.condF rfl ?_;refine AW.exit ?_;simp only[thn,blk,if_true];refine hN1 _ ?_;try clear hN1 N1
 refine AW.sr envOk (fun N hN=>?_);simp-dsimp-implicitDefEqProofs (disch:=omega)only[go_sem,prsP,ints,rows,cubes];refine hN _ ?_;try clear hN N
 refine AW.ret ?_;simp-dsimp-implicitDefEqProofs (disch:=omega)only[go_sem];obtain rfl:x=0:=by omega
 exact⟨_,Le.refl _,rfl,0,rfl,⟨fun _=>hI,fun _=>rfl⟩⟩
theorem impl_IsConsistent_ok (os:List Int) (pw:List (List Int)) (cj:List (List (List Int))) (hl:prlen os pw cj):ACp Tryz.prog 34 [prs os pw cj] (.b (tf (presOk os pw cj∧Con (pc os pw cj) 0))):=by
 refine ACp.intro' envOk Tryz.func34 rfl (by kernel_rfl) Tryz.ntmps34 Tryz.results34 (.b _) (fun nx cX=>?_)
 refine AW.sr envOk (fun N hN=>?_);simp-dsimp-implicitDefEqProofs (disch:=omega)only[go_sem,prs,ints,rows,cubes];refine hN _ ?_;try clear hN N
 refine AW.freezeQ 1 nx _ rfl (upd_same _ _ _) ?_
 simp-dsimp-implicitDefEqProofs (disch:=omega)only[go_sem];refine AW.sr envOk (fun N hN=>?_);simp-dsimp-implicitDefEqProofs (disch:=omega)only[go_sem,prs,ints,rows,cubes];refine AC.pure (.of (impl_IsPresentation_ok os pw cj hl)) ?_;try simp-dsimp-implicitDefEqProofs (disch:=omega)only[go_sem,prs,ints,rows,cubes]
 refine gopB.mk' (fun h1=>?_) (fun h1=>?_)
 ·try simp only[cn]at h1
  try simp-dsimp-implicitDefEqProofs (disch:=omega)only[go_sem,prs,ints,rows,cubes]
  refine(impl_consistentFrom_ok os pw cj h1 _ _).mono2 ?_
  rintro m1 H1 r1 hm1 ⟨rfl,x,rfl,hx⟩
  try simp-dsimp-implicitDefEqProofs (disch:=omega)only[go_sem,prs,ints,rows,cubes]
  refine hN _ ?_;try clear hN N
  refine AW.ret ?_;simp-dsimp-implicitDefEqProofs (disch:=omega)only[go_sem];exact bt (by by_cases q:x=0<;>simp[q,tf_t,tf_f,h1,←hx])
 try simp only[cn]at h1
 try simp-dsimp-implicitDefEqProofs (disch:=omega)only[go_sem,prs,ints,rows,cubes]
 refine hN _ ?_;try clear hN N
 refine AW.ret ?_;simp-dsimp-implicitDefEqProofs (disch:=omega)only[go_sem];all_goals exact bt (tf_f (fun q=>h1 q.1)).symm
def grpP (os:List Int) (pw:List (List Int)) (cj:List (List (List Int))):Prop:=presOk os pw cj∧Con (pc os pw cj) 0
end Go.Proofs.YtghmeeifjeafmaaGreat
