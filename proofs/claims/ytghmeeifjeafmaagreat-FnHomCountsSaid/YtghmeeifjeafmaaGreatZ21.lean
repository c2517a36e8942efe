import Derived.Test.YtghmeeifjeafmaaGreatZ20
set_option linter.unusedVariables false
set_option linter.unusedSimpArgs false
namespace Go.Proofs.YtghmeeifjeafmaaGreat
open Nat (reduceAdd reduceSub reduceGT reduceEqDiff reduceMul)
section
variable {os:List Int} {pw:List (List Int)} {cj:List (List (List Int))}
theorem T.vec_eq {i:Nat} {f g:V} (hf:T (pc os pw cj) i f) (hg:T (pc os pw cj) i g):vec os.length f=vec os.length g↔f=g:=by
  constructor
  · intro h
    funext k
    by_cases e:k<os.length
    · exact vi_inj.1 h k e
    rw[hf.t k (by have:(pc os pw cj).n=os.length:=rfl;omega),hg.t k (by have:(pc os pw cj).n=os.length:=rfl;omega)]
  intro h;rw[h]
theorem spec_l01Same_T {i:Nat} {f g:V} (hn:os.length≤1048576) (hf:T (pc os pw cj) i f) (hg:T (pc os pw cj) i g):ACp Tryz.prog 96 [vi os.length f,vi os.length g] (.b (tf (f=g))):=by
  have:=spec_l01Same_ok (vec os.length f) (vec os.length g) (by rw[vec_len];omega) (by rw[vec_len];omega)
  rw[vi_ints,vi_ints]at this
  rwa [tf_eq (hf.vec_eq hg)]at this
theorem spec_l08Repeat_ok1 (h:presOk os pw cj) (i:Nat) (hi:i<os.length) (hg:Grp (T (pc os pw cj) (i+1)) (M (pc os pw cj) (i+1))) (a:V) (ha:T (pc os pw cj) (i+1) a) (k:Int) (h0:0≤k) (hk:k≤1099511627776):
    ACp Tryz.prog 132 [prs os pw cj,.i .i64 ((i:Int)+1),vi os.length a,.i .i64 k] (vi os.length (rep (M (pc os pw cj) (i+1)) a k.toNat)):=by
  have:=spec_l08Repeat_ok os pw cj h (i+1) hi hg a ha k.toNat (by omega)
  rw[Int.toNat_of_nonneg h0]at this
  rwa [Int.natCast_add]at this
end
theorem spec_l07Unit_ok (n j:Nat) (hn:n≤1048576) (hj:j<n):ACp Tryz.prog 149 [.i .i64 n,.i .i64 j] (vi n (un j)):=by
 refine ACp.introV envOk Tryz.func149 rfl (by kernel_rfl) Tryz.ntmps149 Tryz.results149 ((vi_nr _ _)) (fun nx cX=>?_)
 refine AW.sr envOk (fun N hN=>?_);simp-dsimp-implicitDefEqProofs (disch:=omega)only[go_sem];refine hN _ ?_;try clear hN N
 refine AW.sr envOk (fun N hN=>?_);simp-dsimp-implicitDefEqProofs (disch:=omega)only[go_sem];refine hN _ ?_;try clear hN N
 refine AW.sr envOk (fun N hN=>?_);simp-dsimp-implicitDefEqProofs (disch:=omega)only[go_sem];refine hN _ ?_;try clear hN N
 refine AW.sr envOk (fun N hN=>?_);simp-dsimp-implicitDefEqProofs (disch:=omega)only[go_sem];refine hN _ ?_;try clear hN N
 refine AW.ret ?_;simp-dsimp-implicitDefEqProofs (disch:=omega)only[go_sem];refine Vw.vi ?_
 rw[upd_same,ivs_zero,ivs_set hj];rfl
def FO (p:Prop) (r:AV):Prop:=∃k l a b:Int,r= .g [.i .i64 k,.i .i64 l,.i .i64 a,.i .i64 b]∧(k=0↔p)
theorem FO.bad {p:Prop} {k l a b:Int} (hk:k≠0) (h:¬p):FO p (.g [.i .i64 k,.i .i64 l,.i .i64 a,.i .i64 b]):=⟨k,l,a,b,rfl,⟨fun e=>absurd e hk,fun e=>absurd e h⟩⟩
theorem FO.good {p:Prop} {l a b:Int} (h:p):FO p (.g [.i .i64 0,.i .i64 l,.i .i64 a,.i .i64 b]):=⟨0,l,a,b,rfl,⟨fun _=>h,fun _=>rfl⟩⟩
set_option maxRecDepth 20000 in
set_option maxHeartbeats 2000000 in
theorem spec_l08Level_ok (os:List Int) (pw:List (List Int)) (cj:List (List (List Int))) (h:presOk os pw cj) (i:Nat) (hi:i<os.length) (hg:Grp (T (pc os pw cj) (i+1)) (M (pc os pw cj) (i+1))) (nx:Nat) (H:HP):AC Tryz.prog 152 nx H [prs os pw cj,.i .i64 i] (fun nx' H' r=>H'=H∧FO (Cond (pc os pw cj) i) r):=by
 have hv:=h.val
 have hn6:=h.1.1
 have hpl:=h.1.2.1
 have hcl:=h.1.2.2
 have hcl2:=(h.2.2.2 i hi).2.1
 have e2:AV.v (pw.getD i []).length (List.map (AV.i IntKind.i64) (pw.getD i []))=vi os.length ((pc os pw cj).pw i):=ints_vi (h.pwl hi)
 have im:=fun {a:V}=>img_T (P:=pc os pw cj) (i:=i) hv (fun _ _=>M_T hv) a
 refine AC.introx envOk Tryz.func152 rfl (by kernel_rfl) Tryz.ntmps152 Tryz.results152 (fun hfr cX=>?_)
 refine AW.sr envOk (fun N hN=>?_);simp-dsimp-implicitDefEqProofs (disch:=omega)only[go_sem,prs,prsP,ints,rows,cubes,gd_i,gd_r,gd_c,vi];refine hN _ ?_;try clear hN N
 refine AW.freezeQ 2 nx _ rfl ((upd_ne _ _ (by omega)).trans (upd_same _ _ _)) ?_
 simp-dsimp-implicitDefEqProofs (disch:=omega)only[go_sem];refine AW.sr envOk (fun N hN=>?_);simp-dsimp-implicitDefEqProofs (disch:=omega)only[go_sem,prs,prsP,ints,rows,cubes,gd_i,gd_r,gd_c,vi];refine hN _ ?_;try clear hN N
 refine AW.sr envOk (fun N hN=>?_);simp-dsimp-implicitDefEqProofs (disch:=omega)only[go_sem,prs,prsP,ints,rows,cubes,gd_i,gd_r,gd_c,vi];refine hN _ ?_;try clear hN N
 refine AW.seq (fun N1 hN1=>?_);refine AW.sr envOk (fun N hN=>?_);simp-dsimp-implicitDefEqProofs (disch:=omega)only[go_sem,prs,prsP,ints,rows,cubes,gd_i,gd_r,gd_c,vi];refine hN _ ?_;try clear hN N
 refine AW.block ?_;refine AW.loopN (α:=Nat) (fun x=>sl 188 [(1,.i .i64 i),(2,prsP os pw cj),(4,.q (nx+1) 0),(5,.i .i64 os.length),(6,.i .i64 i),(7,.i .i64 x)]) (fun _=>upd H (nx+1) (some [.i .i64 0,.i .i64 0,.i .i64 0,.i .i64 0])) (fun x m=>(i+1≤x∧x≤os.length)∧∀j,i<j→j<x→rep (M (pc os pw cj) (i+1)) ((pc os pw cj).cj i j) ((pc os pw cj).o j).toNat=img (pc os pw cj) (M (pc os pw cj) (i+1)) i ((pc os pw cj).pw j)) (fun x=>os.length-x) (i+1) ?_ ?_ (by have:=hfr nx (Nat.le_refl _);intro d cs hd;simp only[upd]at hd ⊢;grind) ?_
 ·exact⟨⟨Nat.le_refl _,hi⟩,by intro j h1 h2;omega⟩
 ·simp(disch:=omega) [wks,wkA,sl,prsP,ints,rows,cubes,vi]
 skip
 rintro j m ⟨⟨hj1,hj2⟩,hI⟩
 simp only[prsP];simp-dsimp-implicitDefEqProofs (disch:=omega)only[go_sem];refine AW.seq (fun N2 hN2=>?_);refine AW.sr envOk (fun N hN=>?_);simp-dsimp-implicitDefEqProofs (disch:=omega)only[go_sem,prs,prsP,ints,rows,cubes,gd_i,gd_r,gd_c,vi];refine hN _ ?_;try clear hN N
 refine AW.cond rfl (fun h1=>?_) (fun h1=>?_)
 ·try simp only[cn]at h1
  have ej:((j:Int)-i-1).toNat=j-i-1:=by omega
  have e1:AV.v ((cj.getD i []).getD (j-i-1) []).length (List.map (AV.i IntKind.i64) ((cj.getD i []).getD (j-i-1) []))=vi os.length ((pc os pw cj).cj i j):=ints_vi (h.cjl (by omega) (by omega))
  have e3:AV.v (pw.getD j []).length (List.map (AV.i IntKind.i64) (pw.getD j []))=vi os.length ((pc os pw cj).pw j):=ints_vi (h.pwl (by omega))
  have hoj:=h.o7 (show j<os.length by omega)
  have hoj':(pc os pw cj).o j=os.getD j 0:=rfl
  have tj:=hv.cj i j (by omega) (show j<os.length by omega)
  have tp:=(hv.pw j (show j<os.length by omega)).mono hv (show i+1≤j+1 by omega)
  refine AW.skip ?_;simp only[thn,blk];refine hN2 _ ?_;try clear hN2 N2
  refine AW.seq (fun N3 hN3=>?_);refine AW.block ?_;refine AW.seq (fun N hN=>?_);refine AW.drawL envOk (by kernel_rfl) 21 (by kernel_rfl) ?_
  simp-dsimp-implicitDefEqProofs (disch:=omega)only[hr_nil,hr_one,hr_if,List.take_succ_cons,List.take_zero,List.drop_succ_cons,List.drop_zero,List.take_nil,List.drop_nil,go_sem,undef,prs,prsP,ints,rows,cubes,gd_i,gd_r,gd_c,w64,vi,ej];rw[e1]
  refine⟨_,.of (spec_l08Repeat_ok1 h i hi hg _ tj _ (by omega) (by omega)),?_⟩
  try simp-dsimp-implicitDefEqProofs (disch:=omega)only[go_sem,prs,prsP,ints,rows,cubes,gd_i,gd_r,gd_c,vi]
  refine hN _ ?_;try clear hN N
  refine AW.seq (fun N hN=>?_);refine AW.drawL envOk (by kernel_rfl) 11 (by kernel_rfl) ?_
  simp-dsimp-implicitDefEqProofs (disch:=omega)only[hr_nil,hr_one,hr_if,List.take_succ_cons,List.take_zero,List.drop_succ_cons,List.drop_zero,List.take_nil,List.drop_nil,go_sem,undef,prs,prsP,ints,rows,cubes,gd_i,gd_r,gd_c,w64,vi];rw[e3]
  refine⟨_,.of (spec_l08Image_ok' os pw cj h i hi _ tp),?_⟩
  try simp-dsimp-implicitDefEqProofs (disch:=omega)only[go_sem,prs,prsP,ints,rows,cubes,gd_i,gd_r,gd_c,vi]
  refine⟨_,.of (spec_l01Same_T (by omega) (hg.rep tj _) im),?_⟩
  try simp-dsimp-implicitDefEqProofs (disch:=omega)only[go_sem,prs,prsP,ints,rows,cubes,gd_i,gd_r,gd_c,vi]
  refine hN _ ?_;try clear hN N
  refine AW.cond rfl (fun h2=>?_) (fun h2=>?_)
  ·try simp only[cn]at h2
   refine AW.sr envOk (fun N hN=>?_);simp-dsimp-implicitDefEqProofs (disch:=omega)only[go_sem,prs,prsP,ints,rows,cubes,gd_i,gd_r,gd_c,vi];refine hN _ ?_;try clear hN N
   refine AW.ret ?_;simp-dsimp-implicitDefEqProofs (disch:=omega)only[go_sem];refine⟨H,by have:=hfr (nx+1) (by omega);intro d cs hd;simp only[upd];grind,rfl,?_⟩
   exact FO.bad (by omega) (fun q=>h2 (q.pw j (by omega) (show j<os.length by omega)))
  try simp only[cn]at h2
  refine AW.skip ?_;simp only[thn,blk];refine hN3 _ ?_;try clear hN3 N3
  refine AW.regionL envOk ?_;simp-dsimp-implicitDefEqProofs (disch:=omega)only[go_sem,prs,prsP,ints,rows,cubes,gd_i,gd_r,gd_c,vi];refine⟨j+1,?_,fun _ _ h=>h,?_,?_⟩
  ·simp(disch:=omega) [wks,wkA,sl,prsP,w64,ints,rows,cubes,vi]<;>omega
  ·refine⟨by omega,fun k q1 q2=>?_⟩
   by_cases e:k=j
   ·subst e;exact h2
   exact hI k q1 (by omega)
  first|omega|(simp only;omega)
 try simp only[cn]at h1
 have hI1:∀j,i<j→j<os.length→rep (M (pc os pw cj) (i+1)) ((pc os pw cj).cj i j) ((pc os pw cj).o j).toNat=img (pc os pw cj) (M (pc os pw cj) (i+1)) i ((pc os pw cj).pw j):=fun k q1 q2=>hI k q1 (by omega)
 refine AW.exit ?_;simp only[thn,blk,if_true];refine hN1 _ ?_;try clear hN1 N1
 refine AW.seq (fun N4 hN4=>?_);refine AW.sr envOk (fun N hN=>?_);simp-dsimp-implicitDefEqProofs (disch:=omega)only[go_sem,prs,prsP,ints,rows,cubes,gd_i,gd_r,gd_c,vi];refine hN _ ?_;try clear hN N
 refine AW.block ?_;refine AW.loopN (α:=Nat) (fun x=>sl 188 [(1,.i .i64 i),(2,prsP os pw cj),(4,.q (nx+1) 0),(5,.i .i64 os.length),(6,.i .i64 i),(9,.i .i64 x)]) (fun _=>upd H (nx+1) (some [.i .i64 0,.i .i64 0,.i .i64 0,.i .i64 0])) (fun x m=>(i+1≤x∧x≤os.length)∧∀j k,i<j→j<x→j<k→k<os.length→M (pc os pw cj) (i+1) ((pc os pw cj).cj i k) ((pc os pw cj).cj i j)=M (pc os pw cj) (i+1) ((pc os pw cj).cj i j) (img (pc os pw cj) (M (pc os pw cj) (i+1)) i ((pc os pw cj).cj j k))) (fun x=>os.length-x) (i+1) ?_ ?_ (fun _ _ h=>h) ?_
 ·exact⟨⟨Nat.le_refl _,hi⟩,by intro j k h1 h2;omega⟩
 ·simp(disch:=omega) [wks,wkA,sl,prsP,ints,rows,cubes,vi]
 skip
 rintro j m ⟨⟨hj1,hj2⟩,hI⟩
 simp only[prsP];simp-dsimp-implicitDefEqProofs (disch:=omega)only[go_sem];refine AW.seq (fun N5 hN5=>?_);refine AW.sr envOk (fun N hN=>?_);simp-dsimp-implicitDefEqProofs (disch:=omega)only[go_sem,prs,prsP,ints,rows,cubes,gd_i,gd_r,gd_c,vi];refine hN _ ?_;try clear hN N
 refine AW.cond rfl (fun h3=>?_) (fun h3=>?_)
 ·try simp only[cn]at h3
  refine AW.skip ?_;simp only[thn,blk];refine hN5 _ ?_;try clear hN5 N5
  refine AW.seq (fun N6 hN6=>?_);refine AW.block ?_;refine AW.sr envOk (fun N hN=>?_);simp-dsimp-implicitDefEqProofs (disch:=omega)only[go_sem,prs,prsP,ints,rows,cubes,gd_i,gd_r,gd_c,vi];refine hN _ ?_;try clear hN N
  refine AW.block ?_;refine AW.loopN (α:=Nat) (fun x=>sl 188 [(1,.i .i64 i),(2,prsP os pw cj),(4,.q (nx+1) 0),(5,.i .i64 os.length),(6,.i .i64 i),(9,.i .i64 j),(10,.i .i64 x)]) (fun _=>upd H (nx+1) (some [.i .i64 0,.i .i64 0,.i .i64 0,.i .i64 0])) (fun x m=>(j+1≤x∧x≤os.length)∧∀k,j<k→k<x→M (pc os pw cj) (i+1) ((pc os pw cj).cj i k) ((pc os pw cj).cj i j)=M (pc os pw cj) (i+1) ((pc os pw cj).cj i j) (img (pc os pw cj) (M (pc os pw cj) (i+1)) i ((pc os pw cj).cj j k))) (fun x=>os.length-x) (j+1) ?_ ?_ (fun _ _ h=>h) ?_
  ·exact⟨⟨Nat.le_refl _,by omega⟩,by intro k h1 h2;omega⟩
  ·simp(disch:=omega) [wks,wkA,sl,prsP,ints,rows,cubes,vi]
  skip
  rintro k m ⟨⟨hk1,hk2⟩,hK⟩
  simp only[prsP];simp-dsimp-implicitDefEqProofs (disch:=omega)only[go_sem];refine AW.seq (fun N7 hN7=>?_);refine AW.sr envOk (fun N hN=>?_);simp-dsimp-implicitDefEqProofs (disch:=omega)only[go_sem,prs,prsP,ints,rows,cubes,gd_i,gd_r,gd_c,vi];refine hN _ ?_;try clear hN N
  refine AW.cond rfl (fun h4=>?_) (fun h4=>?_)
  ·try simp only[cn]at h4
   have ej:((j:Int)-i-1).toNat=j-i-1:=by omega
   have ek:((k:Int)-i-1).toNat=k-i-1:=by omega
   have ejk:((k:Int)-j-1).toNat=k-j-1:=by omega
   have e1:AV.v ((cj.getD i []).getD (j-i-1) []).length (List.map (AV.i IntKind.i64) ((cj.getD i []).getD (j-i-1) []))=vi os.length ((pc os pw cj).cj i j):=ints_vi (h.cjl (by omega) (by omega))
   have e3:AV.v ((cj.getD i []).getD (k-i-1) []).length (List.map (AV.i IntKind.i64) ((cj.getD i []).getD (k-i-1) []))=vi os.length ((pc os pw cj).cj i k):=ints_vi (h.cjl (by omega) (by omega))
   have e4:AV.v ((cj.getD j []).getD (k-j-1) []).length (List.map (AV.i IntKind.i64) ((cj.getD j []).getD (k-j-1) []))=vi os.length ((pc os pw cj).cj j k):=ints_vi (h.cjl (by omega) (by omega))
   have hclj:=(h.2.2.2 j (by omega)).2.1
   have tj:=hv.cj i j (by omega) (show j<os.length by omega)
   have tk:=hv.cj i k (by omega) (show k<os.length by omega)
   have tjk:=(hv.cj j k (by omega) (show k<os.length by omega)).mono hv (show i+1≤j+1 by omega)
   refine AW.skip ?_;simp only[thn,blk];refine hN7 _ ?_;try clear hN7 N7
   refine AW.seq (fun N8 hN8=>?_);refine AW.block ?_;refine AW.seq (fun N hN=>?_);refine AW.drawL envOk (by kernel_rfl) 24 (by kernel_rfl) ?_
   simp-dsimp-implicitDefEqProofs (disch:=omega)only[hr_nil,hr_one,hr_if,List.take_succ_cons,List.take_zero,List.drop_succ_cons,List.drop_zero,List.take_nil,List.drop_nil,go_sem,undef,prs,prsP,ints,rows,cubes,gd_i,gd_r,gd_c,w64,vi,ej,ek,e1,e3];refine hN _ ?_;try clear hN N
   refine AW.seq (fun N hN=>?_);refine AW.drawL envOk (by kernel_rfl) 15 (by kernel_rfl) ?_
   simp-dsimp-implicitDefEqProofs (disch:=omega)only[hr_nil,hr_one,hr_if,List.take_succ_cons,List.take_zero,List.drop_succ_cons,List.drop_zero,List.take_nil,List.drop_nil,go_sem,undef,prs,prsP,ints,rows,cubes,gd_i,gd_r,gd_c,w64,vi,ejk];rw[e4]
   refine⟨_,.of (spec_l08Image_ok' os pw cj h i hi _ tjk),?_⟩
   try simp-dsimp-implicitDefEqProofs (disch:=omega)only[go_sem,prs,prsP,ints,rows,cubes,gd_i,gd_r,gd_c,vi]
   refine hN _ ?_;try clear hN N
   refine AW.seq (fun N hN=>?_);refine AW.drawL envOk (by kernel_rfl) 14 (by kernel_rfl) ?_
   simp-dsimp-implicitDefEqProofs (disch:=omega)only[hr_nil,hr_one,hr_if,List.take_succ_cons,List.take_zero,List.drop_succ_cons,List.drop_zero,List.take_nil,List.drop_nil,go_sem,undef,prs,prsP,ints,rows,cubes,gd_i,gd_r,gd_c,w64,vi];refine⟨_,.of (spec_l08At_ok1 os pw cj h i hi _ _ tk tj),?_⟩
   try simp-dsimp-implicitDefEqProofs (disch:=omega)only[go_sem,prs,prsP,ints,rows,cubes,gd_i,gd_r,gd_c,vi]
   refine⟨_,.of (spec_l08At_ok1 os pw cj h i hi _ _ tj im),?_⟩
   try simp-dsimp-implicitDefEqProofs (disch:=omega)only[go_sem,prs,prsP,ints,rows,cubes,gd_i,gd_r,gd_c,vi]
   refine⟨_,.of (spec_l01Same_T (by omega) (hg.cl tk tj) (hg.cl tj im)),?_⟩
   try simp-dsimp-implicitDefEqProofs (disch:=omega)only[go_sem,prs,prsP,ints,rows,cubes,gd_i,gd_r,gd_c,vi]
   refine hN _ ?_;try clear hN N
   refine AW.cond rfl (fun h5=>?_) (fun h5=>?_)
   ·try simp only[cn]at h5
    refine AW.sr envOk (fun N hN=>?_);simp-dsimp-implicitDefEqProofs (disch:=omega)only[go_sem,prs,prsP,ints,rows,cubes,gd_i,gd_r,gd_c,vi];refine hN _ ?_;try clear hN N
    refine AW.ret ?_;simp-dsimp-implicitDefEqProofs (disch:=omega)only[go_sem];refine⟨H,by have:=hfr (nx+1) (by omega);intro d cs hd;simp only[upd];grind,rfl,?_⟩
    exact FO.bad (by omega) (fun q=>h5 (q.cj j k (by omega) (by omega) (show k<os.length by omega)))
   try simp only[cn]at h5
   refine AW.skip ?_;simp only[thn,blk];refine hN8 _ ?_;try clear hN8 N8
   refine AW.regionL envOk ?_;simp-dsimp-implicitDefEqProofs (disch:=omega)only[go_sem,prs,prsP,ints,rows,cubes,gd_i,gd_r,gd_c,vi];refine⟨k+1,?_,fun _ _ h=>h,?_,?_⟩
   ·simp(disch:=omega) [wks,wkA,sl,prsP,w64,ints,rows,cubes,vi]<;>omega
   ·refine⟨by omega,fun t q1 q2=>?_⟩
    by_cases e:t=k
    ·subst e;exact h5
    exact hK t q1 (by omega)
   first|omega|(simp only;omega)
  try simp only[cn]at h4
  refine AW.exit ?_;simp only[thn,blk,if_true];refine hN6 _ ?_;try clear hN6 N6
  refine AW.regionL envOk ?_;simp-dsimp-implicitDefEqProofs (disch:=omega)only[go_sem,prs,prsP,ints,rows,cubes,gd_i,gd_r,gd_c,vi];refine⟨j+1,?_,fun _ _ h=>h,?_,?_⟩
  ·simp(disch:=omega) [wks,wkA,sl,prsP,w64,ints,rows,cubes,vi]<;>omega
  ·refine⟨by omega,fun t k' q1 q2 q3 q4=>?_⟩
   by_cases e:t=j
   ·subst e;exact hK k' q3 (by omega)
   exact hI t k' q1 (by omega) q3 q4
  first|omega|(simp only;omega)
 try simp only[cn]at h3
 have hI2:∀j k,i<j→j<k→k<os.length→M (pc os pw cj) (i+1) ((pc os pw cj).cj i k) ((pc os pw cj).cj i j)=M (pc os pw cj) (i+1) ((pc os pw cj).cj i j) (img (pc os pw cj) (M (pc os pw cj) (i+1)) i ((pc os pw cj).cj j k)):=fun t k q1 q2 q3=>hI t k q1 (by omega) q2 q3
 refine AW.exit ?_;simp only[thn,blk,if_true];refine hN4 _ ?_;try clear hN4 N4
 refine AW.sr envOk (fun N hN=>?_);simp-dsimp-implicitDefEqProofs (disch:=omega)only[go_sem,prs,prsP,ints,rows,cubes,gd_i,gd_r,gd_c,vi,e2];refine hN _ ?_;try clear hN N
 refine AW.seq (fun N9 hN9=>?_);refine AW.sr envOk (fun N hN=>?_);simp-dsimp-implicitDefEqProofs (disch:=omega)only[go_sem,prs,prsP,ints,rows,cubes,gd_i,gd_r,gd_c,vi];refine AC.pure (.of (spec_l08Image_ok' os pw cj h i hi _ (hv.pw i hi))) ?_;try simp-dsimp-implicitDefEqProofs (disch:=omega)only[go_sem,prs,prsP,ints,rows,cubes,gd_i,gd_r,gd_c,vi]
 refine AC.pure (.of (spec_l01Same_T (by omega) im (hv.pw i hi))) ?_;try simp-dsimp-implicitDefEqProofs (disch:=omega)only[go_sem,prs,prsP,ints,rows,cubes,gd_i,gd_r,gd_c,vi]
 refine hN _ ?_;try clear hN N
 refine AW.cond rfl (fun h6=>?_) (fun h6=>?_)
 ·try simp only[cn]at h6
  refine AW.sr envOk (fun N hN=>?_);simp-dsimp-implicitDefEqProofs (disch:=omega)only[go_sem,prs,prsP,ints,rows,cubes,gd_i,gd_r,gd_c,vi];refine hN _ ?_;try clear hN N
  refine AW.ret ?_;simp-dsimp-implicitDefEqProofs (disch:=omega)only[go_sem];refine⟨H,by have:=hfr (nx+1) (by omega);intro d cs hd;simp only[upd];grind,rfl,?_⟩
  exact FO.bad (by omega) (fun q=>h6 q.fx)
 try simp only[cn]at h6
 refine AW.skip ?_;simp only[thn,blk];refine hN9 _ ?_;try clear hN9 N9
 refine AW.seq (fun N10 hN10=>?_);refine AW.sr envOk (fun N hN=>?_);simp-dsimp-implicitDefEqProofs (disch:=omega)only[go_sem,prs,prsP,ints,rows,cubes,gd_i,gd_r,gd_c,vi];refine hN _ ?_;try clear hN N
 refine AW.block ?_;refine AW.loopN (α:=Nat) (fun x=>sl 188 [(1,.i .i64 i),(2,prsP os pw cj),(4,.q (nx+1) 0),(5,.i .i64 os.length),(6,.i .i64 i),(14,vi os.length ((pc os pw cj).pw i)),(15,.i .i64 x)]) (fun _=>upd H (nx+1) (some [.i .i64 0,.i .i64 0,.i .i64 0,.i .i64 0])) (fun x m=>(i+1≤x∧x≤os.length)∧∀j,i<j→j<x→M (pc os pw cj) (i+1) ((pc os pw cj).pw i) (itr (img (pc os pw cj) (M (pc os pw cj) (i+1)) i) ((pc os pw cj).o i).toNat (un j))=M (pc os pw cj) (i+1) (un j) ((pc os pw cj).pw i)) (fun x=>os.length-x) (i+1) ?_ ?_ (fun _ _ h=>h) ?_
 ·exact⟨⟨Nat.le_refl _,hi⟩,by intro j h1 h2;omega⟩
 ·simp(disch:=omega) [wks,wkA,sl,prsP,ints,rows,cubes,vi]
 skip
 rintro j m ⟨⟨hj1,hj2⟩,hI⟩
 simp only[prsP,vi];simp-dsimp-implicitDefEqProofs (disch:=omega)only[go_sem];refine AW.seq (fun N11 hN11=>?_);refine AW.sr envOk (fun N hN=>?_);simp-dsimp-implicitDefEqProofs (disch:=omega)only[go_sem,prs,prsP,ints,rows,cubes,gd_i,gd_r,gd_c,vi];refine hN _ ?_;try clear hN N
 refine AW.cond rfl (fun h7=>?_) (fun h7=>?_)
 ·try simp only[cn]at h7
  have tu:=un_T hv (show i+1≤j by omega) (show j<os.length by omega)
  have hoi:=h.o7 hi
  have hoi':(pc os pw cj).o i=os.getD i 0:=rfl
  refine AW.skip ?_;simp only[thn,blk];refine hN11 _ ?_;try clear hN11 N11
  refine AW.seq (fun N12 hN12=>?_);refine AW.block ?_;refine AW.sr envOk (fun N hN=>?_);simp-dsimp-implicitDefEqProofs (disch:=omega)only[go_sem,prs,prsP,ints,rows,cubes,gd_i,gd_r,gd_c,vi];refine AC.pure (.of (spec_l07Unit_ok os.length j (by omega) (by omega))) ?_;try simp-dsimp-implicitDefEqProofs (disch:=omega)only[go_sem,prs,prsP,ints,rows,cubes,gd_i,gd_r,gd_c,vi]
  refine hN _ ?_;try clear hN N
  refine AW.sr envOk (fun N hN=>?_);simp-dsimp-implicitDefEqProofs (disch:=omega)only[go_sem,prs,prsP,ints,rows,cubes,gd_i,gd_r,gd_c,vi];refine hN _ ?_;try clear hN N
  refine AW.seq (fun N13 hN13=>?_);refine AW.sr envOk (fun N hN=>?_);simp-dsimp-implicitDefEqProofs (disch:=omega)only[go_sem,prs,prsP,ints,rows,cubes,gd_i,gd_r,gd_c,vi];refine hN _ ?_;try clear hN N
  refine AW.block ?_;refine AW.loopN (α:=Nat×V) (fun x=>sl 188 [(1,.i .i64 i),(2,prsP os pw cj),(4,.q (nx+1) 0),(5,.i .i64 os.length),(6,.i .i64 i),(14,vi os.length ((pc os pw cj).pw i)),(15,.i .i64 j),(16,vi os.length (un j)),(17,vi os.length x.2),(18,.i .i64 x.1)]) (fun _=>upd H (nx+1) (some [.i .i64 0,.i .i64 0,.i .i64 0,.i .i64 0])) (fun x m=>x.1≤(os.getD i 0).toNat∧T (pc os pw cj) (i+1) x.2∧x.2=itr (img (pc os pw cj) (M (pc os pw cj) (i+1)) i) x.1 (un j)) (fun x=>(os.getD i 0).toNat-x.1) ((0,un j)) ?_ ?_ (fun _ _ h=>h) ?_
  ·exact⟨Nat.zero_le _,tu,rfl⟩
  ·simp(disch:=omega) [wks,wkA,sl,prsP,ints,rows,cubes,vi]
  skip
  rintro⟨q,w⟩ m ⟨hq,hw,he⟩
  dsimp only at hq hw he
  simp only[prsP,vi];simp-dsimp-implicitDefEqProofs (disch:=omega)only[go_sem];refine AW.seq (fun N14 hN14=>?_);refine AW.sr envOk (fun N hN=>?_);simp-dsimp-implicitDefEqProofs (disch:=omega)only[go_sem,prs,prsP,ints,rows,cubes,gd_i,gd_r,gd_c,vi];refine hN _ ?_;try clear hN N
  refine AW.cond rfl (fun h8=>?_) (fun h8=>?_)
  ·try simp only[cn]at h8
   refine AW.skip ?_;simp only[thn,blk];refine hN14 _ ?_;try clear hN14 N14
   refine AW.seq (fun N15 hN15=>?_);refine AW.block ?_;refine AW.regionL envOk ?_;simp-dsimp-implicitDefEqProofs (disch:=omega)only[go_sem,prs,prsP,ints,rows,cubes,gd_i,gd_r,gd_c,vi];refine AC.pure (.of (spec_l08Image_ok' os pw cj h i hi _ hw)) ?_;try simp-dsimp-implicitDefEqProofs (disch:=omega)only[go_sem,prs,prsP,ints,rows,cubes,gd_i,gd_r,gd_c,vi]
   refine hN15 _ ?_;try clear hN15 N15
   refine AW.regionL envOk ?_;simp-dsimp-implicitDefEqProofs (disch:=omega)only[go_sem,prs,prsP,ints,rows,cubes,gd_i,gd_r,gd_c,vi];refine⟨(q+1,img (pc os pw cj) (M (pc os pw cj) (i+1)) i w),?_,fun _ _ h=>h,?_,?_⟩
   ·simp(disch:=omega) [wks,wkA,sl,prsP,w64,ints,rows,cubes,vi]<;>omega
   ·exact⟨by first|omega|(simp only;omega)|(dsimp only;omega),im,by rw[he];rfl⟩
   first|omega|(simp only;omega)
  try simp only[cn]at h8
  obtain rfl:q=(os.getD i 0).toNat:=by omega
  refine AW.exit ?_;simp only[thn,blk,if_true];refine hN13 _ ?_;try clear hN13 N13
  refine AW.seq (fun N hN=>?_);refine AW.drawL envOk (by kernel_rfl) 14 (by kernel_rfl) ?_
  simp-dsimp-implicitDefEqProofs (disch:=omega)only[hr_nil,hr_one,hr_if,List.take_succ_cons,List.take_zero,List.drop_succ_cons,List.drop_zero,List.take_nil,List.drop_nil,go_sem,undef,prs,prsP,ints,rows,cubes,gd_i,gd_r,gd_c,w64,vi];refine⟨_,.of (spec_l08At_ok1 os pw cj h i hi _ _ (hv.pw i hi) hw),?_⟩
  try simp-dsimp-implicitDefEqProofs (disch:=omega)only[go_sem,prs,prsP,ints,rows,cubes,gd_i,gd_r,gd_c,vi]
  refine⟨_,.of (spec_l08At_ok1 os pw cj h i hi _ _ tu (hv.pw i hi)),?_⟩
  try simp-dsimp-implicitDefEqProofs (disch:=omega)only[go_sem,prs,prsP,ints,rows,cubes,gd_i,gd_r,gd_c,vi]
  refine⟨_,.of (spec_l01Same_T (by omega) (hg.cl (hv.pw i hi) hw) (hg.cl tu (hv.pw i hi))),?_⟩
  try simp-dsimp-implicitDefEqProofs (disch:=omega)only[go_sem,prs,prsP,ints,rows,cubes,gd_i,gd_r,gd_c,vi]
  refine hN _ ?_;try clear hN N
  refine AW.cond rfl (fun h9=>?_) (fun h9=>?_)
  ·try simp only[cn]at h9
   refine AW.sr envOk (fun N hN=>?_);simp-dsimp-implicitDefEqProofs (disch:=omega)only[go_sem,prs,prsP,ints,rows,cubes,gd_i,gd_r,gd_c,vi];refine hN _ ?_;try clear hN N
   refine AW.ret ?_;simp-dsimp-implicitDefEqProofs (disch:=omega)only[go_sem];refine⟨H,by have:=hfr (nx+1) (by omega);intro d cs hd;simp only[upd];grind,rfl,?_⟩
   rw[he]at h9
   exact FO.bad (by omega) (fun q=>h9 (q.inn j (by omega) (show j<os.length by omega)))
  try simp only[cn]at h9
  refine AW.skip ?_;simp only[thn,blk];refine hN12 _ ?_;try clear hN12 N12
  refine AW.regionL envOk ?_;simp-dsimp-implicitDefEqProofs (disch:=omega)only[go_sem,prs,prsP,ints,rows,cubes,gd_i,gd_r,gd_c,vi];refine⟨j+1,?_,fun _ _ h=>h,?_,?_⟩
  ·simp(disch:=omega) [wks,wkA,sl,prsP,w64,ints,rows,cubes,vi]<;>omega
  ·refine⟨by omega,fun k q1 q2=>?_⟩
   by_cases e:k=j
   ·subst e;rw[he]at h9;exact h9
   exact hI k q1 (by omega)
  first|omega|(simp only;omega)
 try simp only[cn]at h7
 refine AW.exit ?_;simp only[thn,blk,if_true];refine hN10 _ ?_;try clear hN10 N10
 refine AW.sr envOk (fun N hN=>?_);simp-dsimp-implicitDefEqProofs (disch:=omega)only[go_sem,prs,prsP,ints,rows,cubes,gd_i,gd_r,gd_c,vi];refine hN _ ?_;try clear hN N
 refine AW.ret ?_;simp-dsimp-implicitDefEqProofs (disch:=omega)only[go_sem];refine⟨H,by have:=hfr (nx+1) (by omega);intro d cs hd;simp only[upd];grind,rfl,?_⟩
 exact FO.good ⟨fun j q1 q2=>hI1 j q1 q2,fun j k q1 q2 q3=>hI2 j k q1 q2 q3,h6,fun j q1 q2=>hI j q1 (by have:j<os.length:=q2;omega)⟩
end Go.Proofs.YtghmeeifjeafmaaGreat
namespace Go.Proofs.YtghmeeifjeafmaaGreat
open Nat (reduceAdd reduceSub reduceGT reduceEqDiff reduceMul)
theorem spec_l08Fault_ok (os:List Int) (pw:List (List Int)) (cj:List (List (List Int))) (h:presOk os pw cj) (nx:Nat) (H:HP):AC Tryz.prog 130 nx H [prs os pw cj] (fun nx' H' r=>H'=H∧FO (Con (pc os pw cj) 0) r):=by
 have hv:=h.val
 have hn6:=h.1.1
 refine AC.introx envOk Tryz.func130 rfl (by kernel_rfl) Tryz.ntmps130 Tryz.results130 (fun hfr cX=>?_)
 refine AW.sr envOk (fun N hN=>?_);simp-dsimp-implicitDefEqProofs (disch:=omega)only[go_sem,prs,prsP,ints,rows,cubes];refine hN _ ?_;try clear hN N
 refine AW.seq (fun N1 hN1=>?_);refine AW.freezeQ 1 nx _ rfl ((upd_ne _ _ (by omega)).trans (upd_same _ _ _)) ?_
 simp-dsimp-implicitDefEqProofs (disch:=omega)only[go_sem];refine AW.sr envOk (fun N hN=>?_);simp-dsimp-implicitDefEqProofs (disch:=omega)only[go_sem,prs,prsP,ints,rows,cubes];refine hN _ ?_;try clear hN N
 refine AW.block ?_;refine AW.loopN (α:=Nat) (fun x=>sl 21 [(1,prsP os pw cj),(2,.q (nx+1) 0),(3,.i .i64 ((x:Int)-1))]) (fun _=>upd H (nx+1) (some [.i .i64 0,.i .i64 0,.i .i64 0,.i .i64 0])) (fun x m=>(x≤os.length∧nx+2≤m)∧Con (pc os pw cj) x) (fun x=>x) (os.length) ?_ ?_ (by have:=hfr nx (Nat.le_refl _);intro d cs hd;simp only[upd]at hd ⊢;grind) ?_
 ·exact⟨⟨Nat.le_refl _,by first|omega|(simp only;omega)|(dsimp only;omega)⟩,fun i h1 h2=>absurd h2 (by have:(pc os pw cj).n=os.length:=rfl;omega)⟩
 ·simp(disch:=omega) [wks,wkA,sl,prsP,ints,rows,cubes]
 skip
 rintro x m ⟨⟨hx,hm⟩,hI⟩
 simp only[prsP];simp-dsimp-implicitDefEqProofs (disch:=omega)only[go_sem];refine AW.seq (fun N2 hN2=>?_);refine AW.sr envOk (fun N hN=>?_);simp-dsimp-implicitDefEqProofs (disch:=omega)only[go_sem,prs,prsP,ints,rows,cubes];refine hN _ ?_;try clear hN N
 refine AW.cond rfl (fun h1=>?_) (fun h1=>?_)
 ·try simp only[cn]at h1
  obtain⟨i,rfl⟩:∃i,x=i+1:=⟨x-1,by omega⟩
  rw[show((i+1:Nat):Int)-1=i by omega]
  refine AW.skip ?_;simp only[thn,blk];refine hN2 _ ?_;try clear hN2 N2
  refine AW.seq (fun N3 hN3=>?_);refine AW.block ?_;refine AW.sr envOk (fun N hN=>?_);simp-dsimp-implicitDefEqProofs (disch:=omega)only[go_sem,prs,prsP,ints,rows,cubes];refine(spec_l08Level_ok os pw cj h i (by omega) (con_grp hv hI) _ _).mono2 ?_
  rintro nx1 H1 r1 hx1 ⟨rfl,k,l,a,b,rfl,hk⟩
  try simp-dsimp-implicitDefEqProofs (disch:=omega)only[go_sem,prs,prsP,ints,rows,cubes]
  refine hN _ ?_;try clear hN N
  refine AW.sr envOk (fun N hN=>?_);simp-dsimp-implicitDefEqProofs (disch:=omega)only[go_sem,prs,prsP,ints,rows,cubes];refine hN _ ?_;try clear hN N
  refine AW.cond rfl (fun h2=>?_) (fun h2=>?_)
  ·try simp only[cn]at h2
   refine AW.sr envOk (fun N hN=>?_);simp-dsimp-implicitDefEqProofs (disch:=omega)only[go_sem,prs,prsP,ints,rows,cubes];refine hN _ ?_;try clear hN N
   refine AW.ret ?_;simp-dsimp-implicitDefEqProofs (disch:=omega)only[go_sem];refine⟨H,by have q1:=hfr (nx+1) (by omega);have q2:=hfr (m+2+3) (by omega);intro d cs hd;simp only[upd];grind,rfl,FO.bad h2 (fun q=>h2 (hk.2 (q i (Nat.zero_le _) (show i<os.length by omega))))⟩
  try simp only[cn]at h2
  refine AW.skip ?_;simp only[thn,blk];refine hN3 _ ?_;try clear hN3 N3
  refine AW.regionL envOk ?_;simp-dsimp-implicitDefEqProofs (disch:=omega)only[go_sem,prs,prsP,ints,rows,cubes];refine⟨i,?_,by have q1:=hfr (nx+1) (by omega);have q2:=hfr (m+2+3) (by omega);intro d cs hd;simp only[upd]at hd ⊢;grind,?_,?_⟩
  ·simp(disch:=omega) [wks,wkA,sl,w64,ints,rows,cubes,prs,prsP,ints,rows,cubes,w64]<;>omega
  ·refine⟨⟨by first|omega|(simp only;omega)|(dsimp only;omega),by first|omega|(simp only;omega)|(dsimp only;omega)⟩,fun t q1 q2=>?_⟩
   by_cases e:t=i
   ·subst e;exact hk.1 h2
   exact hI t (by omega) q2
  first|omega|(simp only;omega)
 try simp only[cn]at h1
 refine AW.exit ?_;simp only[thn,blk,if_true];refine hN1 _ ?_;try clear hN1 N1
 refine AW.sr envOk (fun N hN=>?_);simp-dsimp-implicitDefEqProofs (disch:=omega)only[go_sem,prs,prsP,ints,rows,cubes];refine hN _ ?_;try clear hN N
 refine AW.ret ?_;simp-dsimp-implicitDefEqProofs (disch:=omega)only[go_sem];obtain rfl:x=0:=by omega
 exact⟨H,by have q1:=hfr (nx+1) (by omega);intro d cs hd;simp only[upd];grind,rfl,FO.good hI⟩
theorem spec_l08Consistent_ok (os:List Int) (pw:List (List Int)) (cj:List (List (List Int))) (h:presOk os pw cj):ACp Tryz.prog 86 [prs os pw cj] (.b (tf (Con (pc os pw cj) 0))):=by
 refine ACp.intro' envOk Tryz.func86 rfl (by kernel_rfl) Tryz.ntmps86 Tryz.results86 (.b _) (fun nx cX=>?_)
 refine AW.sr envOk (fun N hN=>?_);simp-dsimp-implicitDefEqProofs (disch:=omega)only[go_sem,prs,prsP,ints,rows,cubes];refine hN _ ?_;try clear hN N
 refine AW.sr envOk (fun N hN=>?_);simp-dsimp-implicitDefEqProofs (disch:=omega)only[go_sem,prs,prsP,ints,rows,cubes];refine(spec_l08Fault_ok os pw cj h _ _).mono2 ?_
 rintro nx1 H1 r1 hx1 ⟨rfl,k,l,a,b,rfl,hk⟩
 try simp-dsimp-implicitDefEqProofs (disch:=omega)only[go_sem,prs,prsP,ints,rows,cubes]
 refine hN _ ?_;try clear hN N
 refine AW.ret ?_;simp-dsimp-implicitDefEqProofs (disch:=omega)only[go_sem];exact bt (by rw[←tf_eq hk];by_cases q:k=0<;>simp[q,tf])
theorem spec_l08Group_ok (os:List Int) (pw:List (List Int)) (cj:List (List (List Int))) (hl:prlen os pw cj):ACp Tryz.prog 46 [prs os pw cj] (.b (tf (presOk os pw cj∧Con (pc os pw cj) 0))):=by
 refine ACp.intro' envOk Tryz.func46 rfl (by kernel_rfl) Tryz.ntmps46 Tryz.results46 (.b _) (fun nx cX=>?_)
 refine AW.sr envOk (fun N hN=>?_);simp-dsimp-implicitDefEqProofs (disch:=omega)only[go_sem,prs,ints,rows,cubes];refine hN _ ?_;try clear hN N
 refine AW.sr envOk (fun N hN=>?_);simp-dsimp-implicitDefEqProofs (disch:=omega)only[go_sem,prs,ints,rows,cubes];refine AC.pure (.of (spec_IsPresentation_ok os pw cj hl)) ?_;try simp-dsimp-implicitDefEqProofs (disch:=omega)only[go_sem,prs,ints,rows,cubes]
 refine gopB.mk' (fun h1=>?_) (fun h1=>?_)
 ·try simp only[cn]at h1
  try simp-dsimp-implicitDefEqProofs (disch:=omega)only[go_sem,prs,ints,rows,cubes]
  refine AC.pure (.of (spec_l08Consistent_ok os pw cj h1)) ?_;try simp-dsimp-implicitDefEqProofs (disch:=omega)only[go_sem,prs,ints,rows,cubes]
  refine hN _ ?_;try clear hN N
  refine AW.ret ?_;simp-dsimp-implicitDefEqProofs (disch:=omega)only[go_sem];all_goals exact bt (tf_eq ⟨fun q=>⟨h1,q⟩,fun q=>q.2⟩)
 try simp only[cn]at h1
 try simp-dsimp-implicitDefEqProofs (disch:=omega)only[go_sem,prs,ints,rows,cubes]
 refine hN _ ?_;try clear hN N
 refine AW.ret ?_;simp-dsimp-implicitDefEqProofs (disch:=omega)only[go_sem];all_goals exact bt (tf_f (fun q=>h1 q.1)).symm
end Go.Proofs.YtghmeeifjeafmaaGreat
