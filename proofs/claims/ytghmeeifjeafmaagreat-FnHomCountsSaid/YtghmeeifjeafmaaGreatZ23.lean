import Derived.Test.YtghmeeifjeafmaaGreatZ21
import Derived.Test.YtghmeeifjeafmaaGreatZ22
set_option linter.unusedVariables false
set_option linter.unusedSimpArgs false
namespace Go.Proofs.YtghmeeifjeafmaaGreat
open Nat (reduceAdd reduceSub reduceGT reduceEqDiff reduceMul)
theorem clone_cp {n:Nat} (f:V) (hn:n≤1099511627776) (nx:Nat) (H:HP):AC Tryz.prog 56 nx H [vi n f] (fun nx' H' r=>CpI nx nx' H H' r n f):=by
  have:=slices_Clone_int64_int64_ok (vec n f) (by rw[vec_len];exact hn) nx H
  rw[vi_ints,vec_len]at this
  refine this.mono ?_
  rintro nx' H' r (⟨id,h1,h2,h3,h4⟩|h)
  · exact .inl ⟨id,h1,h2,h3,by rw[h4,ivs_ext (fun k hk=>vec_get hk)]⟩
  exact .inr h
theorem Own.vi {a b:Nat} {H:HP} {id n:Nat} {f:V} (h:H id=some (Go.Proofs.YtghmeeifjeafmaaGreat.ivs n f)) (h1:a≤id) (h2:id<b):∃ids,Own a b H (.h id 0 n) (Go.Proofs.YtghmeeifjeafmaaGreat.vi n f) ids:=by
  rw[←vi_ints]
  exact⟨_,Own.ints (by rw[h,vec_map]) vec_len.symm h1 h2⟩
theorem Own.vi0 {a b:Nat} {H:HP} {n:Nat} {f:V} (h:n=0):∃ids,Own a b H (.v 0 []) (Go.Proofs.YtghmeeifjeafmaaGreat.vi n f) ids:=by
  subst h
  exact⟨[],.leaf _ .v0 (.v _ _ (by simp)),by simp,by simp⟩
theorem impl_timesVector_0 (os:List Int) (pw:List (List Int)) (cj:List (List (List Int))) (hn:os.length=0) (f:V) (nx:Nat) (H:HP):AC Tryz.prog 114 nx H [prsP os pw cj,.v 0 [],vi os.length f] (fun _ H' _=>H=H'):=by
 refine AC.introx envOk Tryz.func114 rfl (by kernel_rfl) Tryz.ntmps114 Tryz.results114 (fun hfr cX=>?_)
 refine AW.sr envOk (fun N hN=>?_);simp-dsimp-implicitDefEqProofs (disch:=omega)only[go_sem,prsP,ints,rows,cubes,vi];refine hN _ ?_;try clear hN N
 refine AW.block ?_;refine AW.loopN (α:=Nat) (fun x=>sl 24 [(0,prsP os pw cj),(1,.v 0 []),(8,vi os.length f),(9,.i .i64 os.length),(10,.i .i64 0)]) (fun _=>H) (fun x m=>True) (fun x=>0) (0) ?_ ?_ (fun _ _ h=>h) ?_
 ·trivial
 ·simp(disch:=omega) [wks,wkA,sl,prsP,ints,rows,cubes,vi]
 skip
 rintro k m hk
 simp only[prsP,vi];simp-dsimp-implicitDefEqProofs (disch:=omega)only[go_sem];refine AW.sr envOk (fun N hN=>?_);simp-dsimp-implicitDefEqProofs (disch:=omega)only[go_sem,prsP,ints,rows,cubes,vi];refine hN _ ?_;try clear hN N
 refine AW.seq (fun N1 hN1=>?_);refine AW.cond rfl (fun h1=>?_) (fun h1=>?_)
 ·try simp only[cn]at h1
  exfalso;omega
 try simp only[cn]at h1
 refine AW.exit ?_;simp only[thn,blk,if_true];try simp-dsimp-implicitDefEqProofs (disch:=omega)only[go_sem,]
 exact⟨_,Le.refl _,rfl⟩
theorem impl_multiply_ok (os:List Int) (pw:List (List Int)) (cj:List (List (List Int))) (h:presOk os pw cj) (i:Nat) (hc:Con (pc os pw cj) i) (a b:V) (ha:T (pc os pw cj) i a) (hb:T (pc os pw cj) i b):ACo Tryz.prog 83 [prsP os pw cj,vi os.length a,vi os.length b] (vi os.length (M (pc os pw cj) i a b)):=by
 have hv:=h.val
 have hn6:=h.1.1
 have hTV:=(times_ok os pw cj h i hc).1
 intro nx
 refine AC.intro' envOk Tryz.func83 rfl (by kernel_rfl) Tryz.ntmps83 Tryz.results83 (fun cX=>?_)
 refine AW.sr envOk (fun N hN=>?_);simp-dsimp-implicitDefEqProofs (disch:=omega)only[go_sem,];refine hN _ ?_;try clear hN N
 refine AW.sr envOk (fun N hN=>?_);simp-dsimp-implicitDefEqProofs (disch:=omega)only[go_sem,];refine(clone_cp a (by omega) _ _).mono ?_
 rintro m1 H1 r1 (⟨id1,rfl,g1,g2,rfl⟩|⟨h0,rfl,rfl⟩)
 ·skip
  try simp-dsimp-implicitDefEqProofs (disch:=omega)only[go_sem,]
  refine hN _ ?_;try clear hN N
  refine AW.sr envOk (fun N hN=>?_);simp-dsimp-implicitDefEqProofs (disch:=omega)only[go_sem,];refine(hTV _ _ id1 a b (upd_same _ _ _) (ha.mono hv (by omega)) hb).mono2 ?_
  rintro m2 H2 r2 hm2 rfl
  try simp-dsimp-implicitDefEqProofs (disch:=omega)only[go_sem,]
  refine hN _ ?_;try clear hN N
  refine AW.sr envOk (fun N hN=>?_);simp-dsimp-implicitDefEqProofs (disch:=omega)only[go_sem,];refine hN _ ?_;try clear hN N
  refine AW.ret ?_;simp-dsimp-implicitDefEqProofs (disch:=omega)only[go_sem];rw[app_M hv ha hb]
  exact Own.vi (by simp only[upd_same]) (by omega) (by omega)
 skip
 try simp-dsimp-implicitDefEqProofs (disch:=omega)only[go_sem,]
 refine hN _ ?_;try clear hN N
 refine AW.sr envOk (fun N hN=>?_);simp-dsimp-implicitDefEqProofs (disch:=omega)only[go_sem,];refine(impl_timesVector_0 os pw cj h0 b _ _).mono2 ?_
 rintro m2 H2 r2 hm2 rfl
 try simp-dsimp-implicitDefEqProofs (disch:=omega)only[go_sem,]
 refine hN _ ?_;try clear hN N
 refine AW.sr envOk (fun N hN=>?_);simp-dsimp-implicitDefEqProofs (disch:=omega)only[go_sem,];refine hN _ ?_;try clear hN N
 refine AW.ret ?_;simp-dsimp-implicitDefEqProofs (disch:=omega)only[go_sem];exact Own.vi0 h0
theorem impl_power_ok (os:List Int) (pw:List (List Int)) (cj:List (List (List Int))) (h:presOk os pw cj) (i:Nat) (hc:Con (pc os pw cj) i) (a:V) (ha:T (pc os pw cj) i a) (k:Nat) (hk:k≤1099511627776):ACo Tryz.prog 125 [prsP os pw cj,vi os.length a,.i .i64 k] (vi os.length (rep (M (pc os pw cj) i) a k)):=by
 have hv:=h.val
 have hn6:=h.1.1
 have hg:=con_grp hv hc
 have hTV:=(times_ok os pw cj h i hc).1
 intro nx
 refine AC.intro' envOk Tryz.func125 rfl (by kernel_rfl) Tryz.ntmps125 Tryz.results125 (fun cX=>?_)
 refine AW.sr envOk (fun N hN=>?_);simp-dsimp-implicitDefEqProofs (disch:=omega)only[go_sem,prsP,ints,rows,cubes,vi];refine hN _ ?_;try clear hN N
 refine AW.sr envOk (fun N hN=>?_);simp-dsimp-implicitDefEqProofs (disch:=omega)only[go_sem,prsP,ints,rows,cubes,vi];refine hN _ ?_;try clear hN N
 refine AW.seq (fun N1 hN1=>?_);refine AW.sr envOk (fun N hN=>?_);simp-dsimp-implicitDefEqProofs (disch:=omega)only[go_sem,prsP,ints,rows,cubes,vi];refine hN _ ?_;try clear hN N
 refine AW.block ?_;refine AW.loopN (α:=Nat) (fun x=>sl 20 [(0,prsP os pw cj),(1,vi os.length a),(7,.h (nx+1+2) 0 os.length),(11,.i .i64 k),(12,.i .i64 x)]) (fun x=>upd noH (nx+1+2) (some (ivs os.length (rep (M (pc os pw cj) i) a x)))) (fun x m=>x≤k∧nx+4≤m) (fun x=>k-x) (0) ?_ ?_ (by rw[ivs_zero];exact Le.refl _) ?_
 ·exact⟨Nat.zero_le _,by first|omega|(simp only;omega)|(dsimp only;omega)⟩
 ·simp(disch:=omega) [wks,wkA,sl,prsP,ints,rows,cubes,vi]
 skip
 rintro q m ⟨hq,hm⟩
 simp only[prsP,vi];simp-dsimp-implicitDefEqProofs (disch:=omega)only[go_sem];refine AW.sr envOk (fun N hN=>?_);simp-dsimp-implicitDefEqProofs (disch:=omega)only[go_sem,prsP,ints,rows,cubes,vi];refine hN _ ?_;try clear hN N
 refine AW.seq (fun N2 hN2=>?_);refine AW.cond rfl (fun h1=>?_) (fun h1=>?_)
 ·try simp only[cn]at h1
  refine AW.skip ?_;simp only[thn,blk];refine hN2 _ ?_;try clear hN2 N2
  refine AW.seq (fun N3 hN3=>?_);refine AW.block ?_;refine AW.regionL envOk ?_;simp-dsimp-implicitDefEqProofs (disch:=omega)only[go_sem,prsP,ints,rows,cubes,vi];refine(hTV _ _ (nx+1+2) _ a (upd_same _ _ _) ((hg.rep ha q).mono hv (by omega)) ha).mono2 ?_
  rintro m2 H2 r2 hm2 rfl
  rw[app_M hv (hg.rep ha q) ha]
  try simp-dsimp-implicitDefEqProofs (disch:=omega)only[go_sem,prsP,ints,rows,cubes,vi]
  refine hN3 _ ?_;try clear hN3 N3
  refine AW.regionL envOk ?_;simp-dsimp-implicitDefEqProofs (disch:=omega)only[go_sem,prsP,ints,rows,cubes,vi];refine⟨q+1,?_,fun _ _ h=>h,?_,?_⟩
  ·simp(disch:=omega) [wks,wkA,sl,prsP,w64,ints,rows,cubes,vi]<;>omega
  ·exact⟨by first|omega|(simp only;omega)|(dsimp only;omega),by first|omega|(simp only;omega)|(dsimp only;omega)⟩
  first|omega|(simp only;omega)
 try simp only[cn]at h1
 refine AW.exit ?_;simp only[thn,blk,if_true];refine hN1 _ ?_;try clear hN1 N1
 refine AW.sr envOk (fun N hN=>?_);simp-dsimp-implicitDefEqProofs (disch:=omega)only[go_sem,prsP,ints,rows,cubes,vi];refine hN _ ?_;try clear hN N
 refine AW.ret ?_;simp-dsimp-implicitDefEqProofs (disch:=omega)only[go_sem];obtain rfl:q=k:=by omega
 exact Own.vi (upd_same _ _ _) (by omega) (by omega)
theorem impl_imageBy_ok (os:List Int) (pw:List (List Int)) (cj:List (List (List Int))) (h:presOk os pw cj) (i:Nat) (hi:i<os.length) (hc:Con (pc os pw cj) (i+1)) (a:V) (ha:T (pc os pw cj) (i+1) a):ACo Tryz.prog 139 [prsP os pw cj,.i .i64 i,vi os.length a] (vi os.length (img (pc os pw cj) (M (pc os pw cj) (i+1)) i a)):=by
 have hv:=h.val
 have hn6:=h.1.1
 have hpl:=h.1.2.1
 have hcl:=h.1.2.2
 have hcl2:=(h.2.2.2 i hi).2.1
 have hg:=con_grp hv hc
 have hsm:=T.small h ha
 have hTV:=(times_ok os pw cj h (i+1) hc).1
 intro nx
 refine AC.intro' envOk Tryz.func139 rfl (by kernel_rfl) Tryz.ntmps139 Tryz.results139 (fun cX=>?_)
 refine AW.sr envOk (fun N hN=>?_);simp-dsimp-implicitDefEqProofs (disch:=omega)only[go_sem,prsP,ints,rows,cubes,gd_i,gd_r,gd_c,vi];refine hN _ ?_;try clear hN N
 refine AW.sr envOk (fun N hN=>?_);simp-dsimp-implicitDefEqProofs (disch:=omega)only[go_sem,prsP,ints,rows,cubes,gd_i,gd_r,gd_c,vi];refine hN _ ?_;try clear hN N
 refine AW.seq (fun N1 hN1=>?_);refine AW.sr envOk (fun N hN=>?_);simp-dsimp-implicitDefEqProofs (disch:=omega)only[go_sem,prsP,ints,rows,cubes,gd_i,gd_r,gd_c,vi];refine hN _ ?_;try clear hN N
 refine AW.block ?_;refine AW.loopN (α:=Nat×V) (fun x=>sl 42 [(0,prsP os pw cj),(1,.i .i64 i),(2,vi os.length a),(7,.h (nx+1+2) 0 os.length),(19,rows (cj.getD i [])),(20,.i .i64 (cj.getD i []).length),(21,.i .i64 x.1)]) (fun x=>upd noH (nx+1+2) (some (ivs os.length x.2))) (fun x m=>(x.1≤(cj.getD i []).length∧nx+4≤m)∧T (pc os pw cj) (i+1) x.2∧fim (M (pc os pw cj) (i+1)) ((pc os pw cj).cj i) a (os.length-(i+1)-x.1) (i+1+x.1) x.2=img (pc os pw cj) (M (pc os pw cj) (i+1)) i a) (fun x=>(cj.getD i []).length-x.1) ((0,z0)) ?_ ?_ (by rw[ivs_zero];exact Le.refl _) ?_
 ·exact⟨⟨Nat.zero_le _,by first|omega|(simp only;omega)|(dsimp only;omega)⟩,T.zero hv _,rfl⟩
 ·simp(disch:=omega) [wks,wkA,sl,prsP,ints,rows,cubes,vi]
 skip
 rintro⟨q,u⟩ m ⟨⟨hq,hm⟩,hu,hf⟩
 dsimp only at hq hm hu hf
 simp only[prsP,vi];simp-dsimp-implicitDefEqProofs (disch:=omega)only[go_sem];refine AW.sr envOk (fun N hN=>?_);simp-dsimp-implicitDefEqProofs (disch:=omega)only[go_sem,prsP,ints,rows,cubes,gd_i,gd_r,gd_c,vi];refine hN _ ?_;try clear hN N
 refine AW.seq (fun N2 hN2=>?_);refine AW.cond rfl (fun h1=>?_) (fun h1=>?_)
 ·try simp only[cn]at h1
  have hiq:i+1+q<os.length:=by omega
  have hsq:=hsm (i+1+q)
  have e1:AV.v ((cj.getD i []).getD q []).length (List.map (AV.i IntKind.i64) ((cj.getD i []).getD q []))=vi os.length ((pc os pw cj).cj i (i+1+q)):=by
   have:=ints_vi (h.cjl (show i<i+1+q by omega) hiq)
   rw[show i+1+q-i-1=q by omega]at this
   refine this.trans ?_
   show vi _ (fl _)=vi _ (fl ((cj.getD i []).getD (i+1+q-i-1) []))
   rw[show i+1+q-i-1=q by omega]
  have tq:=hv.cj i (i+1+q) (by omega) hiq
  refine AW.skip ?_;simp only[thn,blk];refine hN2 _ ?_;try clear hN2 N2
  refine AW.seq (fun N3 hN3=>?_);refine AW.block ?_;refine AW.sr envOk (fun N hN=>?_);simp-dsimp-implicitDefEqProofs (disch:=omega)only[go_sem,prsP,ints,rows,cubes,gd_i,gd_r,gd_c,vi];refine hN _ ?_;try clear hN N
  refine AW.sr envOk (fun N hN=>?_);simp-dsimp-implicitDefEqProofs (disch:=omega)only[go_sem,prsP,ints,rows,cubes,gd_i,gd_r,gd_c,vi];refine hN _ ?_;try clear hN N
  refine AW.block ?_;rw[e1]
  refine AW.loopN (α:=Nat×V) (fun x=>sl 42 [(0,prsP os pw cj),(1,.i .i64 i),(2,vi os.length a),(7,.h (nx+1+2) 0 os.length),(9,vi os.length ((pc os pw cj).cj i (i+1+q))),(19,rows (cj.getD i [])),(20,.i .i64 (cj.getD i []).length),(21,.i .i64 q),(32,.i .i64 (a (i+1+q))),(33,.i .i64 x.1)]) (fun x=>upd noH (nx+1+2) (some (ivs os.length x.2))) (fun x m=>(x.1≤(a (i+1+q)).toNat∧nx+4≤m)∧T (pc os pw cj) (i+1) x.2∧x.2=itr (fun w=>M (pc os pw cj) (i+1) w ((pc os pw cj).cj i (i+1+q))) x.1 u) (fun x=>(a (i+1+q)).toNat-x.1) ((0,u)) ?_ ?_ (fun _ _ h=>h) ?_
  ·exact⟨⟨Nat.zero_le _,by first|omega|(simp only;omega)|(dsimp only;omega)⟩,hu,rfl⟩
  ·simp(disch:=omega) [wks,wkA,sl,prsP,ints,rows,cubes,vi]
  skip
  rintro⟨y,w⟩ m2 ⟨⟨hy,hm2⟩,hw,he2⟩
  dsimp only at hy hm2 hw he2
  simp only[prsP,vi];simp-dsimp-implicitDefEqProofs (disch:=omega)only[go_sem];refine AW.sr envOk (fun N hN=>?_);simp-dsimp-implicitDefEqProofs (disch:=omega)only[go_sem,prsP,ints,rows,cubes,gd_i,gd_r,gd_c,vi];refine hN _ ?_;try clear hN N
  refine AW.seq (fun N4 hN4=>?_);refine AW.cond rfl (fun h2=>?_) (fun h2=>?_)
  ·try simp only[cn]at h2
   refine AW.skip ?_;simp only[thn,blk];refine hN4 _ ?_;try clear hN4 N4
   refine AW.seq (fun N5 hN5=>?_);refine AW.block ?_;refine AW.regionL envOk ?_;simp-dsimp-implicitDefEqProofs (disch:=omega)only[go_sem,prsP,ints,rows,cubes,gd_i,gd_r,gd_c,vi];refine(hTV _ _ (nx+1+2) w ((pc os pw cj).cj i (i+1+q)) (upd_same _ _ _) (hw.mono hv (by omega)) tq).mono2 ?_
   rintro m3 H1 r1 hm3 rfl
   rw[app_M hv hw tq]
   try simp-dsimp-implicitDefEqProofs (disch:=omega)only[go_sem,prsP,ints,rows,cubes,gd_i,gd_r,gd_c,vi]
   refine hN5 _ ?_;try clear hN5 N5
   refine AW.regionL envOk ?_;simp-dsimp-implicitDefEqProofs (disch:=omega)only[go_sem,prsP,ints,rows,cubes,gd_i,gd_r,gd_c,vi];refine⟨(y+1,M (pc os pw cj) (i+1) w ((pc os pw cj).cj i (i+1+q))),?_,fun _ _ h=>h,?_,?_⟩
   ·simp(disch:=omega) [wks,wkA,sl,prsP,w64,ints,rows,cubes,vi]<;>omega
   ·exact⟨⟨by first|omega|(simp only;omega)|(dsimp only;omega),by first|omega|(simp only;omega)|(dsimp only;omega)⟩,hg.cl hw tq,by rw[he2];rfl⟩
   first|omega|(simp only;omega)
  try simp only[cn]at h2
  refine AW.exit ?_;simp only[thn,blk,if_true];refine hN3 _ ?_;try clear hN3 N3
  refine AW.regionL envOk ?_;simp-dsimp-implicitDefEqProofs (disch:=omega)only[go_sem,prsP,ints,rows,cubes,gd_i,gd_r,gd_c,vi];refine⟨(q+1,w),?_,fun _ _ h=>h,?_,?_⟩
  ·simp(disch:=omega) [wks,wkA,sl,prsP,w64,ints,rows,cubes,vi]<;>omega
  ·refine⟨⟨by first|omega|(simp only;omega)|(dsimp only;omega),by first|omega|(simp only;omega)|(dsimp only;omega)⟩,hw,?_⟩
   show fim (M (pc os pw cj) (i+1)) ((pc os pw cj).cj i) a (os.length-(i+1)-(q+1)) (i+1+(q+1)) w=_
   rw[←hf,he2,show os.length-(i+1)-q=os.length-(i+1)-(q+1)+1 by omega,fim,show y=(a (i+1+q)).toNat by omega]
   rfl
  first|omega|(simp only;omega)
 try simp only[cn]at h1
 refine AW.exit ?_;simp only[thn,blk,if_true];refine hN1 _ ?_;try clear hN1 N1
 refine AW.sr envOk (fun N hN=>?_);simp-dsimp-implicitDefEqProofs (disch:=omega)only[go_sem,prsP,ints,rows,cubes,gd_i,gd_r,gd_c,vi];refine hN _ ?_;try clear hN N
 refine AW.ret ?_;simp-dsimp-implicitDefEqProofs (disch:=omega)only[go_sem];rw[show os.length-(i+1)-q=0 by omega]at hf
 rw[←hf]
 exact Own.vi (upd_same _ _ _) (by omega) (by omega)
open Nat (reduceAdd reduceSub reduceGT reduceEqDiff reduceMul)
theorem impl_unitVector_v (n j:Nat) (hn:n≤1048576) (hj:j<n):ACp Tryz.prog 141 [.i .i64 n,.i .i64 j] (vi n (un j)):=by
  have:=(impl_unitVector_ok n j hn hj).pure
  unfold unitL at this
  rw[vi_ints]at this
  rwa [vi_ext (g:=un j) (fun k hk=>by simp only[un,fset,z0])]at this
theorem slices_Equal_T {os:List Int} {pw:List (List Int)} {cj:List (List (List Int))} {i:Nat} {f g:V} (hn:os.length≤1048576) (hf:T (pc os pw cj) i f) (hg:T (pc os pw cj) i g):ACp Tryz.prog 100 [vi os.length f,vi os.length g] (.b (tf (f=g))):=by
  have:=slices_Equal_int64_int64_ok (vec os.length f) (vec os.length g) (by rw[vec_len];omega) (by rw[vec_len];omega)
  rw[vi_ints,vi_ints]at this
  rwa [tf_eq (hf.vec_eq hg)]at this
theorem impl_power_i {os:List Int} {pw:List (List Int)} {cj:List (List (List Int))} (h:presOk os pw cj) (i:Nat) (hc:Con (pc os pw cj) i) (a:V) (ha:T (pc os pw cj) i a) (k:Int) (h0:0≤k) (hk:k≤1099511627776):ACp Tryz.prog 125 [prsP os pw cj,vi os.length a,.i .i64 k] (vi os.length (rep (M (pc os pw cj) i) a k.toNat)):=by
  have:=(impl_power_ok os pw cj h i hc a ha k.toNat (by omega)).pure
  rwa [Int.toNat_of_nonneg h0]at this
theorem impl_invert_ok (os:List Int) (pw:List (List Int)) (cj:List (List (List Int))) (h:presOk os pw cj) (i:Nat) (hc:Con (pc os pw cj) i) (a:V) (ha:T (pc os pw cj) i a):ACo Tryz.prog 113 [prsP os pw cj,vi os.length a] (vi os.length (inv (pc os pw cj) i a)):=by
 have hv:=h.val
 have hn6:=h.1.1
 have hg:=con_grp hv hc
 have hTG:=(times_ok os pw cj h i hc).2
 have hnn:(pc os pw cj).n=os.length:=rfl
 intro nx
 refine AC.intro' envOk Tryz.func113 rfl (by kernel_rfl) Tryz.ntmps113 Tryz.results113 (fun cX=>?_)
 refine AW.sr envOk (fun N hN=>?_);simp-dsimp-implicitDefEqProofs (disch:=omega)only[go_sem,prsP,ints,rows,cubes,vi];refine hN _ ?_;try clear hN N
 refine AW.sr envOk (fun N hN=>?_);simp-dsimp-implicitDefEqProofs (disch:=omega)only[go_sem,prsP,ints,rows,cubes,vi];refine(clone_cp a (by omega) _ _).mono2 ?_
 rintro m1 H1 r1 hm1 (⟨id1,rfl,g1,g2,rfl⟩|⟨h0,rfl,rfl⟩)
 ·skip
  try simp-dsimp-implicitDefEqProofs (disch:=omega)only[go_sem,]
  refine hN _ ?_;try clear hN N
  refine AW.sr envOk (fun N hN=>?_);simp-dsimp-implicitDefEqProofs (disch:=omega)only[go_sem,prsP,ints,rows,cubes,vi];refine hN _ ?_;try clear hN N
  refine AW.seq (fun N1 hN1=>?_);refine AW.sr envOk (fun N hN=>?_);simp-dsimp-implicitDefEqProofs (disch:=omega)only[go_sem,prsP,ints,rows,cubes,vi];refine hN _ ?_;try clear hN N
  refine AW.block ?_;refine AW.loopN (α:=Nat×V×V) (fun x=>sl 33 [(0,prsP os pw cj),(5,.h id1 0 os.length),(6,.h (m1+2) 0 os.length),(14,.i .i64 os.length),(15,.i .i64 x.1)]) (fun x=>upd (upd noH id1 (some (ivs os.length x.2.1))) (m1+2) (some (ivs os.length x.2.2))) (fun x m=>(x.1≤os.length∧m1+4≤m)∧T (pc os pw cj) i x.2.1∧T (pc os pw cj) i x.2.2∧M (pc os pw cj) i a x.2.2=x.2.1∧∀t,t<x.1→x.2.1 t=0) (fun x=>os.length-x.1) ((0,a,z0)) ?_ ?_ (by rw[ivs_zero];exact Le.refl _) ?_
  ·exact⟨⟨Nat.zero_le _,by first|omega|(simp only;omega)|(dsimp only;omega)⟩,ha,hg.e0,hg.r1 ha,by intro t ht;omega⟩
  ·simp(disch:=omega) [wks,wkA,sl,prsP,ints,rows,cubes,vi]
  skip
  rintro⟨k,r,o⟩ m ⟨⟨hk,hm⟩,hr,ho,hao,hz⟩
  dsimp only at hk hm hr ho hao hz
  simp only[prsP,vi];simp-dsimp-implicitDefEqProofs (disch:=omega)only[go_sem];refine AW.sr envOk (fun N hN=>?_);simp-dsimp-implicitDefEqProofs (disch:=omega)only[go_sem,prsP,ints,rows,cubes,vi];refine hN _ ?_;try clear hN N
  refine AW.seq (fun N2 hN2=>?_);refine AW.cond rfl (fun h1=>?_) (fun h1=>?_)
  ·try simp only[cn]at h1
   refine AW.skip ?_;simp only[thn,blk];refine hN2 _ ?_;try clear hN2 N2
   refine AW.seq (fun N3 hN3=>?_);refine AW.block ?_;refine AW.sr envOk (fun N hN=>?_);simp-dsimp-implicitDefEqProofs (disch:=omega)only[go_sem,prsP,ints,rows,cubes,vi];refine hN _ ?_;try clear hN N
   refine AW.block ?_;refine AW.loopN (α:=V×V) (fun x=>sl 33 [(0,prsP os pw cj),(5,.h id1 0 os.length),(6,.h (m1+2) 0 os.length),(7,.i .i64 k),(14,.i .i64 os.length),(15,.i .i64 k)]) (fun x=>upd (upd noH id1 (some (ivs os.length x.1))) (m1+2) (some (ivs os.length x.2))) (fun x m=>(m1+4≤m)∧T (pc os pw cj) i x.1∧T (pc os pw cj) i x.2∧M (pc os pw cj) i a x.2=x.1∧∀t,t<k→x.1 t=0) (fun x=>if x.1 k=0 then 0 else ((pc os pw cj).o k-x.1 k).toNat) ((r,o)) ?_ ?_ (fun _ _ h=>h) ?_
   ·exact⟨by first|omega|(simp only;omega)|(dsimp only;omega),hr,ho,hao,hz⟩
   ·simp(disch:=omega) [wks,wkA,sl,prsP,ints,rows,cubes,vi]
   skip
   rintro⟨r,o⟩ m ⟨hm,hr,ho,hao,hz⟩
   dsimp only at hm hr ho hao hz
   simp only[prsP,vi];simp-dsimp-implicitDefEqProofs (disch:=omega)only[go_sem];refine AW.seq (fun N4 hN4=>?_);refine AW.sr envOk (fun N hN=>?_);simp-dsimp-implicitDefEqProofs (disch:=omega)only[go_sem,prsP,ints,rows,cubes,vi];refine hN _ ?_;try clear hN N
   refine AW.cond rfl (fun h2=>?_) (fun h2=>?_)
   ·try simp only[cn]at h2
    have hik:i≤k:=by
     apply Classical.byContradiction;intro hn
     exact h2 (hr.z k (by omega))
    have hrk:=hr.r k hik (by omega)
    have tu:=un_T hv (Nat.le_refl k) (show k<(pc os pw cj).n by omega)
    have e1:app (pc os pw cj) k r (un k)=M (pc os pw cj) i r (un k):=by rw[←app_eq hv hik (hr.mono hv (by omega)) tu,app_M hv hr (tu.mono hv hik)]
    have e2:app (pc os pw cj) k o (un k)=M (pc os pw cj) i o (un k):=by rw[←app_eq hv hik (ho.mono hv (by omega)) tu,app_M hv ho (tu.mono hv hik)]
    have e3:app (pc os pw cj) k r (un k) k=(tg0 (pc os pw cj) k r).1:=by rw[tg_eq hv (by omega) (con_grp hv (hc.mono (by omega))) (hr.mono hv (by omega)),cmb_at]
    refine AW.skip ?_;simp only[thn,blk];refine hN4 _ ?_;try clear hN4 N4
    refine AW.block ?_;refine AW.sr envOk (fun N hN=>?_);simp-dsimp-implicitDefEqProofs (disch:=omega)only[go_sem,prsP,ints,rows,cubes,vi];refine(hTG k hik (by omega) _ _ id1 r (by simp(disch:=omega)only[upd_same,upd_ne]) (hr.mono hv (by omega))).mono2 ?_
    rintro m2 H2 r2 hm2 rfl
    try simp-dsimp-implicitDefEqProofs (disch:=omega)only[go_sem,prsP,ints,rows,cubes,vi]
    refine hN _ ?_;try clear hN N
    refine AW.regionL envOk ?_;simp-dsimp-implicitDefEqProofs (disch:=omega)only[go_sem,prsP,ints,rows,cubes,vi];refine(hTG k hik (by omega) _ _ (m1+2) o (by simp(disch:=omega)only[upd_same,upd_ne]) (ho.mono hv (by omega))).mono2 ?_
    rintro m3 H3 r3 hm3 rfl
    try simp-dsimp-implicitDefEqProofs (disch:=omega)only[go_sem,prsP,ints,rows,cubes,vi]
    refine⟨(app (pc os pw cj) k r (un k),app (pc os pw cj) k o (un k)),?_,by intro d cs hd;simp only[upd,noH]at hd ⊢;grind,?_,?_⟩
    ·simp(disch:=omega) [wks,wkA,sl,prsP,w64,ints,rows,cubes,vi]<;>omega
    ·first|refine⟨by first|omega|(simp only;omega)|(dsimp only;omega),?_,?_,?_,?_⟩|refine⟨?_,?_,?_,?_⟩
     ·rw[e1];exact hg.cl hr (tu.mono hv hik)
     ·rw[e2];exact hg.cl ho (tu.mono hv hik)
     ·rw[e1,e2,←hao,hg.ac ha ho (tu.mono hv hik)]
     intro t ht;show(if t<k then r t else _)=0;rw[if_pos ht];exact hz t ht
    (simp only[e3,if_neg h2];unfold tg0;split<;>split<;>simp_all<;>omega)
   try simp only[cn]at h2
   refine AW.exit ?_;simp only[thn,blk,if_true];refine hN3 _ ?_;try clear hN3 N3
   refine AW.regionL envOk ?_;simp-dsimp-implicitDefEqProofs (disch:=omega)only[go_sem,prsP,ints,rows,cubes,vi];refine⟨(k+1,r,o),?_,fun _ _ h=>h,?_,?_⟩
   ·simp(disch:=omega) [wks,wkA,sl,prsP,w64,ints,rows,cubes,vi]<;>omega
   ·refine⟨⟨by first|omega|(simp only;omega)|(dsimp only;omega),by first|omega|(simp only;omega)|(dsimp only;omega)⟩,hr,ho,hao,fun t ht=>?_⟩
    by_cases e:t=k
    ·subst e;exact h2
    exact hz t (by first|omega|(simp only;omega)|(dsimp only;omega))
   first|omega|(simp only;omega)
  try simp only[cn]at h1
  refine AW.exit ?_;simp only[thn,blk,if_true];refine hN1 _ ?_;try clear hN1 N1
  refine AW.sr envOk (fun N hN=>?_);simp-dsimp-implicitDefEqProofs (disch:=omega)only[go_sem,prsP,ints,rows,cubes,vi];refine hN _ ?_;try clear hN N
  refine AW.ret ?_;simp-dsimp-implicitDefEqProofs (disch:=omega)only[go_sem];have hrz:r=z0:=by
   funext t
   by_cases e:t<os.length
   ·exact hz t (by omega)
   exact hr.t t (by omega)
  rw[hrz]at hao
  rw[←inv_eq hg ha ho hao]
  exact Own.vi (upd_same _ _ _) (by omega) (by omega)
 skip
 try simp-dsimp-implicitDefEqProofs (disch:=omega)only[go_sem,]
 refine hN _ ?_;try clear hN N
 refine AW.sr envOk (fun N hN=>?_);simp-dsimp-implicitDefEqProofs (disch:=omega)only[go_sem,prsP,ints,rows,cubes,vi];refine hN _ ?_;try clear hN N
 refine AW.seq (fun N5 hN5=>?_);refine AW.sr envOk (fun N hN=>?_);simp-dsimp-implicitDefEqProofs (disch:=omega)only[go_sem,prsP,ints,rows,cubes,vi];refine hN _ ?_;try clear hN N
 refine AW.block ?_;refine AW.loopN (α:=Nat) (fun x=>sl 33 [(0,prsP os pw cj),(5,.v 0 []),(6,.h (m1+2) 0 os.length),(14,.i .i64 0),(15,.i .i64 0)]) (fun _=>upd noH (m1+2) (some (ivs os.length z0))) (fun x m=>m1+4≤m) (fun x=>0) (0) ?_ ?_ (by rw[ivs_zero];exact Le.refl _) ?_
 ·first|omega|(simp only;omega)|(dsimp only;omega)
 ·simp(disch:=omega) [wks,wkA,sl,prsP,ints,rows,cubes,vi]
 skip
 rintro k m hk
 simp only[prsP,vi];simp-dsimp-implicitDefEqProofs (disch:=omega)only[go_sem];refine AW.sr envOk (fun N hN=>?_);simp-dsimp-implicitDefEqProofs (disch:=omega)only[go_sem,prsP,ints,rows,cubes,vi];refine hN _ ?_;try clear hN N
 refine AW.seq (fun N6 hN6=>?_);refine AW.cond rfl (fun h3=>?_) (fun h3=>?_)
 ·try simp only[cn]at h3
  exfalso;omega
 try simp only[cn]at h3
 refine AW.exit ?_;simp only[thn,blk,if_true];refine hN5 _ ?_;try clear hN5 N5
 refine AW.sr envOk (fun N hN=>?_);simp-dsimp-implicitDefEqProofs (disch:=omega)only[go_sem,prsP,ints,rows,cubes,vi];refine hN _ ?_;try clear hN N
 refine AW.ret ?_;simp-dsimp-implicitDefEqProofs (disch:=omega)only[go_sem];exact Own.vi (by rw[upd_same,ivs_ext (f:=z0) (g:=inv (pc os pw cj) i a) (fun t ht=>by omega)]) (by omega) (by omega)
theorem impl_conjugate_ok (os:List Int) (pw:List (List Int)) (cj:List (List (List Int))) (h:presOk os pw cj) (i:Nat) (hc:Con (pc os pw cj) i) (a b:V) (ha:T (pc os pw cj) i a) (hb:T (pc os pw cj) i b):ACo Tryz.prog 140 [prsP os pw cj,vi os.length a,vi os.length b] (vi os.length (M (pc os pw cj) i (inv (pc os pw cj) i b) (M (pc os pw cj) i a b))):=by
 have hv:=h.val
 have hg:=con_grp hv hc
 intro nx
 refine AC.intro' envOk Tryz.func140 rfl (by kernel_rfl) Tryz.ntmps140 Tryz.results140 (fun cX=>?_)
 refine AW.sr envOk (fun N hN=>?_);simp-dsimp-implicitDefEqProofs (disch:=omega)only[go_sem,];refine hN _ ?_;try clear hN N
 refine AW.sr envOk (fun N hN=>?_);simp-dsimp-implicitDefEqProofs (disch:=omega)only[go_sem,];refine AC.pure (.of ((impl_invert_ok os pw cj h i hc b hb).pure)) ?_;try simp-dsimp-implicitDefEqProofs (disch:=omega)only[go_sem,]
 refine AC.pure (.of ((impl_multiply_ok os pw cj h i hc a b ha hb).pure)) ?_;try simp-dsimp-implicitDefEqProofs (disch:=omega)only[go_sem,]
 refine AC.own (impl_multiply_ok os pw cj h i hc _ _ (inv_T hg hb).1 (hg.cl ha hb)) Vws.rfl ?_
 intro m1 H1 r1 ids1 hm1 hH1 hown1
 try simp-dsimp-implicitDefEqProofs (disch:=omega)only[go_sem,]
 refine hN _ ?_;try clear hN N
 refine AW.ret ?_;simp-dsimp-implicitDefEqProofs (disch:=omega)only[go_sem];exact⟨ids1,hown1.keep (fun _ _ _=>rfl) (by omega) (by omega)⟩
end Go.Proofs.YtghmeeifjeafmaaGreat
