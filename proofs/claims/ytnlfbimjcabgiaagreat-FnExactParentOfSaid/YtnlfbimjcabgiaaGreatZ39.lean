import Derived.Test.YtnlfbimjcabgiaaGreatZ38
set_option linter.unusedVariables false
set_option linter.unusedSimpArgs false
namespace Go.Proofs.YtnlfbimjcabgiaaGreat
open Nat (reduceAdd reduceSub reduceGT reduceEqDiff reduceMul)
theorem adT_nil {P:Pc} {t:Nat→Option V}:adT P t []=t:=by
  unfold adT
  cases clM P t []with
  |zero=>rfl
  |succ f=>rfl
theorem upd_self {H:HP} {id:Nat} {c:Option (List AV)} (h:H id=c):upd H id c=H:=by
  funext i
  unfold upd
  split
  · rename_i e;rw[e,h]
  · rfl
section
variable (os:List Int) (pw:List (List Int)) (cj:List (List (List Int)))
set_option maxRecDepth 20000 in
theorem impl_add_nil (n ids:Nat) (nx:Nat) (H:HP):AC Tryz.prog 66 nx H [.q ids 0,vls n []] (fun _ H' r=>r= .b false∧H'=H):=by
 refine AC.introx envOk Tryz.func66 rfl (by kernel_rfl) Tryz.ntmps66 Tryz.results66 (fun hfr=> ?_)
 refine AW.sr envOk (fun N hN=> ?_)
 simp-dsimp-implicitDefEqProofs (disch:=omega) only[go_sem,undef,w64,vi,ints,vls]
 refine hN _ ?_
 try clear hN N
 refine AW.sr envOk (fun N hN=> ?_)
 simp-dsimp-implicitDefEqProofs (disch:=omega) only[go_sem,undef,w64,vi,ints,vls]
 refine hN _ ?_
 try clear hN N
 refine AW.sr envOk (fun N hN=> ?_)
 simp-dsimp-implicitDefEqProofs (disch:=omega) only[go_sem,undef,w64,vi,ints,vls]
 refine(slices_Clone_vls n [] (by simp) _ _).mono2 ?_
 rintro nx1 H1 r hx1 (⟨id0,rfl,hid1,hid2,rfl⟩|⟨-,rfl,rfl⟩)
 ·skip
  try simp-dsimp-implicitDefEqProofs (disch:=omega) only[go_sem,undef,w64,vi,ints,vls]
  refine hN _ ?_
  try clear hN N
  refine AW.seq (fun N1 hN1=> ?_)
  refine AW.block ?_
  refine AW.loopN (α:=Nat) (fun x=>sl 109 [(0,.q ids 0),(5,.b false),(6,.h id0 0 0)]) (fun _=>upd H id0 (some [])) (fun x m=>nx≤id0) (fun x=>0) (0) ?_ ?_ (fun _ _ h=>h) ?_
  ·omega
  ·simp(disch:=omega) [wks,wkA,sl]
  ·skip
   rintro k m hk
   simp-dsimp-implicitDefEqProofs (disch:=omega) only[go_sem,undef]
   refine AW.seq (fun N2 hN2=> ?_)
   refine AW.sr envOk (fun N hN=> ?_)
   simp-dsimp-implicitDefEqProofs (disch:=omega) only[go_sem,undef,w64,vi,ints,vls]
   refine hN _ ?_
   try clear hN N
   refine AW.cond rfl (fun h1=> ?_) (fun h1=> ?_)
   ·try simp only[cn]at h1
    first|done|(cases h1)|(exact absurd h1 (by simp))
   ·try simp only[cn]at h1
    refine AW.exit ?_
    simp only[thn,blk,if_true]
    refine hN1 _ ?_
    try clear hN1 N1
    refine AW.sr envOk (fun N hN=> ?_)
    simp-dsimp-implicitDefEqProofs (disch:=omega) only[go_sem,undef,w64,vi,ints,vls]
    refine hN _ ?_
    try clear hN N
    refine AW.ret ?_
    simp-dsimp-implicitDefEqProofs (disch:=omega) only[go_sem,undef]
    exact⟨_,le_new (hfr id0 hk),rfl⟩
 ·skip
  try simp-dsimp-implicitDefEqProofs (disch:=omega) only[go_sem,undef,w64,vi,ints,vls]
  refine hN _ ?_
  try clear hN N
  refine AW.seq (fun N3 hN3=> ?_)
  refine AW.block ?_
  refine AW.loopN (α:=Nat) (fun x=>sl 109 [(0,.q ids 0),(5,.b false),(6,.v 0 [])]) (fun _=>H1) (fun x m=>True) (fun x=>0) (0) ?_ ?_ (fun _ _ h=>h) ?_
  ·trivial
  ·simp(disch:=omega) [wks,wkA,sl]
  ·skip
   rintro k m hk
   simp-dsimp-implicitDefEqProofs (disch:=omega) only[go_sem,undef]
   refine AW.seq (fun N4 hN4=> ?_)
   refine AW.sr envOk (fun N hN=> ?_)
   simp-dsimp-implicitDefEqProofs (disch:=omega) only[go_sem,undef,w64,vi,ints,vls]
   refine hN _ ?_
   try clear hN N
   refine AW.cond rfl (fun h2=> ?_) (fun h2=> ?_)
   ·try simp only[cn]at h2
    first|done|(cases h2)|(exact absurd h2 (by simp))
   ·try simp only[cn]at h2
    refine AW.exit ?_
    simp only[thn,blk,if_true]
    refine hN3 _ ?_
    try clear hN3 N3
    refine AW.sr envOk (fun N hN=> ?_)
    simp-dsimp-implicitDefEqProofs (disch:=omega) only[go_sem,undef,w64,vi,ints,vls]
    refine hN _ ?_
    try clear hN N
    refine AW.ret ?_
    simp-dsimp-implicitDefEqProofs (disch:=omega) only[go_sem,undef]
    exact⟨_,Le.refl _,rfl⟩
theorem impl_add_ok (h:presOk os pw cj) (hc:Con (pc os pw cj) 0) (t0:Nat→Option V) (hG0:tbG (pc os pw cj) t0) (us:List V) (hl:us.length≤1000) (hu:∀x∈us,T (pc os pw cj) 0 x) (nx:Nat) (H:HP) (ids id2:Nat) (hne:ids≠id2) (h1':H ids=some [prsP os pw cj,.h id2 0 os.length]) (h2':H id2=some (tbn os.length t0)):AC Tryz.prog 66 nx H [.q ids 0,vls os.length us] (fun _ H' r=>r= .b (tf (adT (pc os pw cj) t0 us≠t0))∧H'=upd H id2 (some (tbn os.length (adT (pc os pw cj) t0 us)))):=by
  by_cases h0:us=[]
  · subst h0
    refine(impl_add_nil os.length ids nx H).mono2 ?_
    rintro m H1 r hm ⟨rfl,rfl⟩
    rw[adT_nil]
    exact⟨by rw[tf_f (fun q=>q rfl)],(upd_self h2').symm⟩
  · exact impl_add_ne os pw cj h hc t0 hG0 us hl (List.length_pos_iff.2 h0) hu nx H ids id2 hne h1' h2'
theorem outR_clo (h:presOk os pw cj) (hc:Con (pc os pw cj) 0) (us:List V) (hu:∀x∈us,T (pc os pw cj) 0 x):outR (pc os pw cj) (adT (pc os pw cj) (fun _=>none) us) 0=cloU (pc os pw cj) us:=
  out_same h.val hc (fun d hd=>h.2.1 d hd) hu
theorem impl_generated_ok (h:presOk os pw cj) (hc:Con (pc os pw cj) 0) (us:List V) (hl:us.length≤1000) (hu:∀x∈us,T (pc os pw cj) 0 x):ACp Tryz.prog 33 [prsP os pw cj,vls os.length us] (vls os.length (cloU (pc os pw cj) us)):=by
 have hn6:=h.1.1
 have hG:=tbI_G h.val hc (fun d hd=>h.2.1 d hd) hu
 have hout:=outR_clo os pw cj h hc us hu
 refine ACp.intro' envOk Tryz.func33 rfl (by kernel_rfl) Tryz.ntmps33 Tryz.results33 (vls_nr _ _) (fun nx=> ?_)
 refine AW.sr envOk (fun N hN=> ?_)
 simp-dsimp-implicitDefEqProofs (disch:=omega) only[go_sem,undef,w64]
 refine hN _ ?_
 try clear hN N
 refine AW.sr envOk (fun N hN=> ?_)
 simp-dsimp-implicitDefEqProofs (disch:=omega) only[go_sem,undef,w64]
 refine(impl_newSequence_ok os pw cj (by omega) _ _).mono2 ?_
 rintro m1 H1 r1 hm1 ⟨ids,id2,rfl,⟨i1,i2,i3,i4,i5⟩,rfl⟩
 try simp-dsimp-implicitDefEqProofs (disch:=omega) only[go_sem,undef,w64]
 refine hN _ ?_
 try clear hN N
 refine AW.sr envOk (fun N hN=> ?_)
 simp-dsimp-implicitDefEqProofs (disch:=omega) only[go_sem,undef,w64]
 refine(impl_add_ok os pw cj h hc (fun _=>none) (fun d y hy=>by cases hy) us hl hu _ _ ids id2 i5 (upd_same _ _ _) ((upd_ne _ _ (Ne.symm i5)).trans (upd_same _ _ _))).mono2 ?_
 rintro m2 H2 r2 hm2 ⟨rfl,rfl⟩
 try simp-dsimp-implicitDefEqProofs (disch:=omega) only[go_sem,undef,w64]
 refine hN _ ?_
 try clear hN N
 refine AW.sr envOk (fun N hN=> ?_)
 simp-dsimp-implicitDefEqProofs (disch:=omega) only[go_sem,undef,w64]
 refine(impl_canonical_ok os pw cj h hc (adT (pc os pw cj) (fun _=>none) us) hG _ _ ids id2 ((upd_ne _ _ i5).trans (upd_same _ _ _)) (upd_same _ _ _)).mono2 ?_
 rintro m3 H3 r3 hm3 ⟨rfl,rfl⟩
 try simp-dsimp-implicitDefEqProofs (disch:=omega) only[go_sem,undef,w64]
 refine hN _ ?_
 try clear hN N
 refine AW.ret ?_
 simp-dsimp-implicitDefEqProofs (disch:=omega) only[go_sem,undef]
 rw[hout]
end
end Go.Proofs.YtnlfbimjcabgiaaGreat
namespace Go.Proofs.YtnlfbimjcabgiaaGreat
open Nat (reduceAdd reduceSub reduceGT reduceEqDiff reduceMul)
theorem slices_EqualFunc_rows (a b:List (List Int)) (ha:rowslen a) (hb:rowslen b):ACp Tryz.prog 145 [rows a,rows b,.f 136 []] (.b (tf (a=b))):=by
 have han:=ha.n
 have hbn:=hb.n
 refine ACp.intro' envOk Tryz.func145 rfl (by kernel_rfl) Tryz.ntmps145 Tryz.results145 (.b _) (fun nx=> ?_)
 refine AW.sr envOk (fun N hN=> ?_)
 simp-dsimp-implicitDefEqProofs (disch:=omega) only[go_sem,undef,rows,gd_r,w64]
 refine hN _ ?_
 try clear hN N
 refine AW.seq (fun N1 hN1=> ?_)
 refine AW.sr envOk (fun N hN=> ?_)
 simp-dsimp-implicitDefEqProofs (disch:=omega) only[go_sem,undef,rows,gd_r,w64]
 refine hN _ ?_
 try clear hN N
 refine AW.cond rfl (fun h1=> ?_) (fun h1=> ?_)
 ·try simp only[cn]at h1
  refine AW.sr envOk (fun N hN=> ?_)
  simp-dsimp-implicitDefEqProofs (disch:=omega) only[go_sem,undef,rows,gd_r,w64]
  refine hN _ ?_
  try clear hN N
  refine AW.ret ?_
  simp-dsimp-implicitDefEqProofs (disch:=omega) only[go_sem,undef]
  exact bt (tf_f (fun h=>h1 (by rw[h]))).symm
 ·try simp only[cn]at h1
  have hl:a.length=b.length:=by omega
  refine AW.skip ?_
  simp only[thn,blk]
  refine hN1 _ ?_
  try clear hN1 N1
  refine AW.seq (fun N2 hN2=> ?_)
  refine AW.sr envOk (fun N hN=> ?_)
  simp-dsimp-implicitDefEqProofs (disch:=omega) only[go_sem,undef,rows,gd_r,w64]
  refine hN _ ?_
  try clear hN N
  refine AW.block ?_
  refine AW.loopN (α:=Nat) (fun x=>sl 32 [(1,rows b),(2,.f 136 []),(15,rows a),(16,.i .i64 a.length),(17,.i .i64 x)]) (fun _=>noH) (fun x m=>x≤a.length∧a.take x=b.take x) (fun x=>a.length-x) (0) ?_ ?_ (fun _ _ h=>h) ?_
  ·exact⟨by omega,rfl⟩
  ·simp(disch:=omega) [wks,wkA,sl,w64,ints,rows,cubes,rows,gd_r,w64]<;>omega
  ·skip
   rintro k m ⟨hk,hI⟩
   simp-dsimp-implicitDefEqProofs (disch:=omega) only[go_sem,undef]
   refine AW.sr envOk (fun N hN=> ?_)
   simp-dsimp-implicitDefEqProofs (disch:=omega) only[go_sem,undef,rows,gd_r,w64]
   refine hN _ ?_
   try clear hN N
   refine AW.seq (fun N3 hN3=> ?_)
   refine AW.cond rfl (fun h2=> ?_) (fun h2=> ?_)
   ·try simp only[cn]at h2
    have hak:=ha.getD k
    have hbk:=hb.getD k
    refine AW.skip ?_
    simp only[thn,blk]
    refine hN3 _ ?_
    try clear hN3 N3
    refine AW.seq (fun N4 hN4=> ?_)
    refine AW.block ?_
    refine AW.sr envOk (fun N hN=> ?_)
    simp-dsimp-implicitDefEqProofs (disch:=omega) only[go_sem,undef,rows,gd_r,w64]
    refine hN _ ?_
    try clear hN N
    refine AW.sr envOk (fun N hN=> ?_)
    simp-dsimp-implicitDefEqProofs (disch:=omega) only[go_sem,undef,rows,gd_r,w64]
    refine hN _ ?_
    try clear hN N
    refine AW.sr envOk (fun N hN=> ?_)
    simp-dsimp-implicitDefEqProofs (disch:=omega) only[go_sem,undef,rows,gd_r,w64]
    refine AC.pure (.of (slices_Equal_int64_int64_ok (a.getD k []) (b.getD k []) (by omega) (by omega))) ?_
    try simp-dsimp-implicitDefEqProofs (disch:=omega) only[go_sem,undef,rows,gd_r,w64]
    refine hN _ ?_
    try clear hN N
    refine AW.cond rfl (fun h3=> ?_) (fun h3=> ?_)
    ·try simp only[cn]at h3
     refine AW.sr envOk (fun N hN=> ?_)
     simp-dsimp-implicitDefEqProofs (disch:=omega) only[go_sem,undef,rows,gd_r,w64]
     refine hN _ ?_
     try clear hN N
     refine AW.ret ?_
     simp-dsimp-implicitDefEqProofs (disch:=omega) only[go_sem,undef]
     exact bt (tf_f (fun h=>h3 (by rw[h]))).symm
    ·try simp only[cn]at h3
     refine AW.skip ?_
     simp only[thn,blk]
     refine hN4 _ ?_
     try clear hN4 N4
     refine AW.regionL envOk ?_
     simp-dsimp-implicitDefEqProofs (disch:=omega) only[go_sem,undef,rows,gd_r,w64]
     refine⟨k+1,?_,fun _ _ h=>h,?_,?_⟩
     ·simp(disch:=omega) [wks,wkA,sl,w64,ints,rows,cubes,rows,gd_r,w64]<;>omega
     ·exact⟨by omega,take_ext [] hl (by omega) hI h3⟩
     ·first|omega|(simp only;omega)
   ·try simp only[cn]at h2
    refine AW.exit ?_
    simp only[thn,blk,if_true]
    refine hN2 _ ?_
    try clear hN2 N2
    refine AW.sr envOk (fun N hN=> ?_)
    simp-dsimp-implicitDefEqProofs (disch:=omega) only[go_sem,undef,rows,gd_r,w64]
    refine hN _ ?_
    try clear hN N
    refine AW.ret ?_
    simp-dsimp-implicitDefEqProofs (disch:=omega) only[go_sem,undef]
    have hk':k=a.length:=by omega
    subst hk'
    rw[List.take_length,hl,List.take_length]at hI
    exact bt (tf_t hI).symm
theorem impl_sameRows_ok (a b:List (List Int)) (ha:rowslen a) (hb:rowslen b):ACp Tryz.prog 120 [rows a,rows b] (.b (tf (a=b))):=by
 refine ACp.intro' envOk Tryz.func120 rfl (by kernel_rfl) Tryz.ntmps120 Tryz.results120 (.b _) (fun nx=> ?_)
 refine AW.sr envOk (fun N hN=> ?_)
 simp-dsimp-implicitDefEqProofs (disch:=omega) only[go_sem,undef,]
 refine hN _ ?_
 try clear hN N
 refine AW.sr envOk (fun N hN=> ?_)
 simp-dsimp-implicitDefEqProofs (disch:=omega) only[go_sem,undef,]
 refine AC.pure (.of (slices_EqualFunc_rows a b ha hb)) ?_
 try simp-dsimp-implicitDefEqProofs (disch:=omega) only[go_sem,undef,]
 refine hN _ ?_
 try clear hN N
 refine AW.ret ?_
 simp-dsimp-implicitDefEqProofs (disch:=omega) only[go_sem,undef]
 skip
def Sls (H:HP) (nx:Nat) (x:AV) (xs:List AV):Prop:=(∀z∈xs,one z=true)∧(x= .v xs.length xs∨(x= .nl∧xs=[])∨∃i,i<nx∧x= .h i 0 xs.length∧H i=some xs)
theorem rep_ne {n:Nat} {z:AV} (h:0<n):(List.replicate n z=[])=False:=by
  cases n with
  |zero=>omega
  |succ n=>simp[List.replicate_succ]
theorem slices_Grow_rows_zero (nx:Nat) (H:HP):AC Tryz.prog 147 nx H [.nl,.i .i64 (0:Nat)] (fun nx' H' r=>nx≤nx'∧H'=H∧r= .nl):=by
 refine AC.introx envOk Tryz.func147 rfl (by kernel_rfl) Tryz.ntmps147 Tryz.results147 (fun hfr=> ?_)
 refine AW.sr envOk (fun N hN=> ?_)
 simp-dsimp-implicitDefEqProofs (disch:=omega) only[go_sem,undef,w64]
 refine hN _ ?_
 try clear hN N
 refine AW.seq (fun N1 hN1=> ?_)
 refine AW.sr envOk (fun N hN=> ?_)
 simp-dsimp-implicitDefEqProofs (disch:=omega) only[go_sem,undef,w64]
 refine hN _ ?_
 try clear hN N
 refine AW.cond rfl (fun h1=> ?_) (fun h1=> ?_)
 ·try simp only[cn]at h1
  exfalso;omega
 ·try simp only[cn]at h1
  refine AW.skip ?_
  simp only[thn,blk]
  refine hN1 _ ?_
  try clear hN1 N1
  refine AW.seq (fun N2 hN2=> ?_)
  refine AW.sr envOk (fun N hN=> ?_)
  simp-dsimp-implicitDefEqProofs (disch:=omega) only[go_sem,undef,w64]
  refine hN _ ?_
  try clear hN N
  refine AW.sr envOk (fun N hN=> ?_)
  simp-dsimp-implicitDefEqProofs (disch:=omega) only[go_sem,undef,w64]
  refine hN _ ?_
  try clear hN N
  refine AW.cond rfl (fun h2=> ?_) (fun h2=> ?_)
  ·try simp only[cn]at h2
   exfalso;omega
  ·try simp only[cn]at h2
   refine AW.skip ?_
   simp only[thn,blk]
   refine hN2 _ ?_
   try clear hN2 N2
   refine AW.sr envOk (fun N hN=> ?_)
   simp-dsimp-implicitDefEqProofs (disch:=omega) only[go_sem,undef,w64]
   refine hN _ ?_
   try clear hN N
   refine AW.ret ?_
   simp-dsimp-implicitDefEqProofs (disch:=omega) only[go_sem,undef]
   exact⟨H,Le.refl _,rfl⟩
theorem slices_Grow_rows_pos (n:Nat) (h0:0<n) (hn:n≤4000000) (nx:Nat) (H:HP):AC Tryz.prog 147 nx H [.nl,.i .i64 n] (fun nx' H' r=>nx≤nx'∧(∀i,i<nx→H' i=H i)∧∃id cs,nx≤id∧id<nx'∧r= .h id 0 0∧H' id=some cs):=by
 refine AC.introx envOk Tryz.func147 rfl (by kernel_rfl) Tryz.ntmps147 Tryz.results147 (fun hfr=> ?_)
 refine AW.sr envOk (fun N hN=> ?_)
 simp-dsimp-implicitDefEqProofs (disch:=omega) only[go_sem,undef,w64,rep_ne]
 refine hN _ ?_
 try clear hN N
 refine AW.seq (fun N1 hN1=> ?_)
 refine AW.sr envOk (fun N hN=> ?_)
 simp-dsimp-implicitDefEqProofs (disch:=omega) only[go_sem,undef,w64,rep_ne]
 refine hN _ ?_
 try clear hN N
 refine AW.cond rfl (fun h1=> ?_) (fun h1=> ?_)
 ·try simp only[cn]at h1
  exfalso;omega
 ·try simp only[cn]at h1
  refine AW.skip ?_
  simp only[thn,blk]
  refine hN1 _ ?_
  try clear hN1 N1
  refine AW.seq (fun N2 hN2=> ?_)
  refine AW.sr envOk (fun N hN=> ?_)
  simp-dsimp-implicitDefEqProofs (disch:=omega) only[go_sem,undef,w64,rep_ne]
  refine hN _ ?_
  try clear hN N
  refine AW.sr envOk (fun N hN=> ?_)
  simp-dsimp-implicitDefEqProofs (disch:=omega) only[go_sem,undef,w64,rep_ne]
  refine hN _ ?_
  try clear hN N
  refine AW.cond rfl (fun h2=> ?_) (fun h2=> ?_)
  ·try simp only[cn]at h2
   refine AW.regionL envOk ?_
   simp-dsimp-implicitDefEqProofs (disch:=omega) only[go_sem,undef,w64,rep_ne]
   refine hN2 _ ?_
   try clear hN2 N2
   refine AW.sr envOk (fun N hN=> ?_)
   simp-dsimp-implicitDefEqProofs (disch:=omega) only[go_sem,undef,w64,rep_ne]
   refine hN _ ?_
   try clear hN N
   refine AW.ret ?_
   simp-dsimp-implicitDefEqProofs (disch:=omega) only[go_sem,undef]
   exact⟨_,Le.refl _,fun i hi=>upd_ne _ _ (by omega),_,_,by omega,by omega,rfl,upd_same _ _ _⟩
  ·try simp only[cn]at h2
   exfalso;omega
def CatP (nx:Nat) (H:HP) (zs:List AV) (nx':Nat) (H':HP) (r:AV):Prop:=nx≤nx'∧(∀i,i<nx→H' i=H i)∧
  ((zs=[]∧r= .nl)∨∃id cs,nx≤id∧id<nx'∧r= .h id 0 zs.length∧H' id=some cs∧cs.take zs.length=zs)
theorem Le.cat {nx idg:Nat} {H H1:HP} {cs:List AV} (hfr:∀i,nx≤i→H i=none) (h:∀i,i<nx→H1 i=H i) (hg:H1 idg=some cs) (hn:nx≤idg):Le (upd H idg (some cs)) H1:=by
  intro i d hi
  by_cases e:i=idg
  · subst e;rw[upd_same]at hi;rw[hg];exact hi
  · rw[upd_ne _ _ e]at hi
    rcases Nat.lt_or_ge i nx with hlt|hlt
    · rw[h i hlt];exact hi
    · rw[hfr i hlt]at hi;cases hi
theorem Le.cat2 {nx id id2:Nat} {H:HP} {d:Option (List AV)} (hfr:∀i,nx≤i→H i=none) (h:nx≤id):Le (upd H id2 d) (upd (upd H id none) id2 d):=by
  rw[upd_none H (hfr id h)];exact Le.refl _
def flA (xss:List (List AV)) (k:Nat):List AV:=(xss.take k).flatten
theorem flA_z {xss:List (List AV)}:flA xss 0=[]:=by simp[flA]
theorem flA_all {xss:List (List AV)}:flA xss xss.length=xss.flatten:=by rw[flA,List.take_length]
theorem flA_s {xss:List (List AV)} {i:Nat} (h:i<xss.length):flA xss (i+1)=flA xss i++xss.getD i []:=by
  unfold flA
  rw[List.take_add_one,List.flatten_append]
  congr 1
  simp[h]
theorem flA_len {xss:List (List AV)} {i:Nat} (h:i<xss.length):(flA xss (i+1)).length=(flA xss i).length+(xss.getD i []).length:=by rw[flA_s h,List.length_append]
theorem flA_le {xss:List (List AV)} {i:Nat} (h:i<xss.length):(flA xss i).length+(xss.getD i []).length≤xss.flatten.length:=by
  have h1:xss.flatten=flA xss (i+1)++(xss.drop (i+1)).flatten:=by unfold flA;rw[←List.flatten_append,List.take_append_drop]
  rw[h1,List.length_append,flA_len h];omega
theorem flA_zl {xss:List (List AV)}:(flA xss 0).length=0:=by simp[flA]
theorem slices_Concat_rows_pos (zs:List AV) (xss:List (List AV)) (hz:zs.length=xss.length) (hl:zs.length≤1000) (idl nx:Nat) (H:HP) (hH:H idl=some zs) (hid:idl<nx) (hs:∀i,i<xss.length→Sls H nx (zs.getD i .j) (xss.getD i [])) (h0:0<xss.flatten.length) (hn:xss.flatten.length≤4000000):
 AC Tryz.prog 123 nx H [.h idl 0 zs.length] (CatP nx H xss.flatten):=by
 have hfz:=flA_zl (xss:=xss)
 refine AC.introx envOk Tryz.func123 rfl (by kernel_rfl) Tryz.ntmps123 Tryz.results123 (fun hfr=> ?_)
 refine AW.sr envOk (fun N hN=> ?_)
 simp-dsimp-implicitDefEqProofs (disch:=omega) only[go_sem,undef,w64,hH]
 refine hN _ ?_
 try clear hN N
 refine AW.sr envOk (fun N hN=> ?_)
 simp-dsimp-implicitDefEqProofs (disch:=omega) only[go_sem,undef,w64,hH]
 refine hN _ ?_
 try clear hN N
 refine AW.seq (fun N1 hN1=> ?_)
 refine AW.sr envOk (fun N hN=> ?_)
 simp-dsimp-implicitDefEqProofs (disch:=omega) only[go_sem,undef,w64,hH]
 refine hN _ ?_
 try clear hN N
 refine AW.block ?_
 refine AW.loopN (α:=Nat) (fun x=>sl 36 [(0,.h idl 0 zs.length),(3,.i .i64 (flA xss x).length),(9,.h idl 0 zs.length),(10,.i .i64 zs.length),(11,.i .i64 x)]) (fun _=>H) (fun x m=>x≤xss.length∧nx≤m) (fun x=>xss.length-x) (0) ?_ ?_ (fun _ _ h=>h) ?_
 ·exact⟨by omega,by first|omega|(simp only;omega)|(dsimp only;omega)⟩
 ·simp(disch:=omega) [wks,wkA,sl,w64,ints,rows,cubes,w64,hH]<;>omega
 ·skip
  rintro k m ⟨hk,hm⟩
  simp-dsimp-implicitDefEqProofs (disch:=omega) only[go_sem,undef]
  refine AW.sr envOk (fun N hN=> ?_)
  simp-dsimp-implicitDefEqProofs (disch:=omega) only[go_sem,undef,w64,hH]
  refine hN _ ?_
  try clear hN N
  refine AW.seq (fun N2 hN2=> ?_)
  refine AW.cond rfl (fun h1=> ?_) (fun h1=> ?_)
  ·try simp only[cn]at h1
   have hkl:k<xss.length:=by omega
   have hfl:=flA_le hkl
   have hfn:=flA_len hkl
   have hsk:=hs k hkl
   generalize xss.getD k []=y at hsk hfl hfn
   rcases hsk.2 with hx|⟨hx,hxe⟩|⟨i,hi,hx,hxi⟩
   case' inr.inl=>(subst hxe;simp only[List.length_nil]at hfl hfn)
   all_goals
    refine AW.skip ?_
    simp only[thn,blk]
    refine hN2 _ ?_
    try clear hN2 N2
    refine AW.seq (fun N3 hN3=> ?_)
    refine AW.block ?_
    refine AW.sr envOk (fun N hN=> ?_)
    simp-dsimp-implicitDefEqProofs (disch:=omega) only[go_sem,undef,w64,hH,hx]
    refine hN _ ?_
    try clear hN N
    refine AW.sr envOk (fun N hN=> ?_)
    simp-dsimp-implicitDefEqProofs (disch:=omega) only[go_sem,undef,w64,hH,hx]
    refine hN _ ?_
    try clear hN N
    refine AW.sr envOk (fun N hN=> ?_)
    simp-dsimp-implicitDefEqProofs (disch:=omega) only[go_sem,undef,w64,hH]
    refine hN _ ?_
    try clear hN N
    refine AW.cond rfl (fun h2=> ?_) (fun h2=> ?_)
    ·try simp only[cn]at h2
     exfalso;omega
    ·try simp only[cn]at h2
     refine AW.skip ?_
     simp only[thn,blk]
     refine hN3 _ ?_
     try clear hN3 N3
     refine AW.regionL envOk ?_
     simp-dsimp-implicitDefEqProofs (disch:=omega) only[go_sem,undef,w64,hH]
     refine⟨k+1,?_,fun _ _ h=>h,?_,?_⟩
     ·simp(disch:=omega) [wks,wkA,sl,w64,ints,rows,cubes,w64,hH]<;>omega
     ·exact⟨by omega,by first|omega|(simp only;omega)|(dsimp only;omega)⟩
     ·first|omega|(simp only;omega)
  ·try simp only[cn]at h1
   have hk':k=xss.length:=by omega
   subst hk'
   rw[flA_all]
   refine AW.exit ?_
   simp only[thn,blk,if_true]
   refine hN1 _ ?_
   try clear hN1 N1
   refine AW.sr envOk (fun N hN=> ?_)
   simp-dsimp-implicitDefEqProofs (disch:=omega) only[go_sem,undef,w64,hH]
   refine(slices_Grow_rows_pos _ h0 hn _ _).mono ?_
   rintro nx1 H1 r ⟨hx1,hHH,idg,csg,hg1,hg2,rfl,hg3⟩
   refine hN _ ?_
   try clear hN N
   refine AW.seq (fun N4 hN4=> ?_)
   refine AW.sr envOk (fun N hN=> ?_)
   simp-dsimp-implicitDefEqProofs (disch:=omega) only[go_sem,undef,w64,hH]
   refine hN _ ?_
   try clear hN N
   refine AW.block ?_
   refine AW.loopN (α:=Nat×Nat×List AV) (fun x=>sl 36 [(6,.h x.2.1 0 (flA xss x.1).length),(25,.h idl 0 zs.length),(26,.i .i64 zs.length),(27,.i .i64 x.1)]) (fun x=>upd H x.2.1 (some x.2.2)) (fun x m=>(x.1≤xss.length∧nx≤x.2.1∧x.2.1<m)∧x.2.2.take (flA xss x.1).length=flA xss x.1) (fun x=>xss.length-x.1) ((0,idg,csg)) ?_ ?_ (Le.cat (fun i hi=>hfr i (by omega)) hHH hg3 (by first|omega|(simp only;omega)|(dsimp only;omega))) ?_
   ·exact⟨⟨by simp,by first|omega|(simp only;omega)|(dsimp only;omega),by first|omega|(simp only;omega)|(dsimp only;omega)⟩,by simp[flA_z]⟩
   ·simp(disch:=omega) [wks,wkA,sl,w64,ints,rows,cubes,w64,hH]<;>omega
   ·skip
    rintro⟨q,id,cs⟩ m2 ⟨⟨hq,hid2,hm2⟩,htk⟩
    dsimp only at hq hid2 hm2 htk
    simp-dsimp-implicitDefEqProofs (disch:=omega) only[go_sem,undef]
    refine AW.sr envOk (fun N hN=> ?_)
    simp-dsimp-implicitDefEqProofs (disch:=omega) only[go_sem,undef,w64,hH]
    refine hN _ ?_
    try clear hN N
    refine AW.seq (fun N5 hN5=> ?_)
    refine AW.cond rfl (fun h3=> ?_) (fun h3=> ?_)
    ·try simp only[cn]at h3
     have hql:q<xss.length:=by omega
     have hsq:=hs q hql
     have hfs:=flA_s hql
     have hcl:(flA xss q).length≤cs.length:=by have:=congrArg List.length htk;rw[List.length_take]at this;omega
     have hfl:=flA_le hql
     have hfn:=flA_len hql
     generalize xss.getD q []=y at hsq hfl hfn hfs
     have hone:=eq_true hsq.1
     have hxi:=hH
     rcases hsq.2 with hx|⟨hx,hxe⟩|⟨i,hi,hx,hxi⟩
     case' inr.inl=>(subst hxe;simp only[List.length_nil]at hfl hfn)
     all_goals
      refine AW.skip ?_
      simp only[thn,blk]
      refine hN5 _ ?_
      try clear hN5 N5
      refine AW.seq (fun N6 hN6=> ?_)
      refine AW.block ?_
      refine AW.sr envOk (fun N hN=> ?_)
      simp-dsimp-implicitDefEqProofs (disch:=omega) only[go_sem,undef,w64,hH,hx,hone]
      refine hN _ ?_
      try clear hN N
      refine AW.regionL envOk ?_
      simp-dsimp-implicitDefEqProofs (disch:=omega) only[go_sem,undef,w64,hH,hx,hone,hxi,List.take_length]
      refine hN6 _ ?_
      try clear hN6 N6
      refine AW.regionL envOk ?_
      simp-dsimp-implicitDefEqProofs (disch:=omega) only[go_sem,undef,w64,hH]
      refine⟨(q+1,m2+1+3+2,flA xss (q+1)),?_,by dsimp only;rw[hfs,htk];exact Le.cat2 hfr (by omega),?_,?_⟩
      ·simp(disch:=omega) [wks,wkA,sl,w64,ints,rows,cubes,w64,hH]<;>omega
      ·exact⟨⟨by first|omega|(simp only;omega)|(dsimp only;omega),by first|omega|(simp only;omega)|(dsimp only;omega),by first|omega|(simp only;omega)|(dsimp only;omega)⟩,List.take_length⟩
      ·first|omega|(simp only;omega)
    ·try simp only[cn]at h3
     have hq':q=xss.length:=by omega
     subst hq'
     rw[flA_all]at htk
     refine AW.exit ?_
     simp only[thn,blk,if_true]
     refine hN4 _ ?_
     try clear hN4 N4
     refine AW.sr envOk (fun N hN=> ?_)
     simp-dsimp-implicitDefEqProofs (disch:=omega) only[go_sem,undef,w64,hH]
     refine hN _ ?_
     try clear hN N
     refine AW.ret ?_
     simp-dsimp-implicitDefEqProofs (disch:=omega) only[go_sem,undef]
     rw[flA_all]
     exact⟨_,Le.refl _,by omega,fun i hi=>upd_ne _ _ (by omega),.inr ⟨id,cs,hid2,by omega,rfl,upd_same _ _ _,htk⟩⟩
theorem slices_Concat_rows_zero (zs:List AV) (xss:List (List AV)) (hz:zs.length=xss.length) (hl:zs.length≤1000) (idl nx:Nat) (H:HP) (hH:H idl=some zs) (hid:idl<nx) (hs:∀i,i<xss.length→Sls H nx (zs.getD i .j) (xss.getD i [])) (h0:xss.flatten.length=0):
 AC Tryz.prog 123 nx H [.h idl 0 zs.length] (CatP nx H xss.flatten):=by
 refine AC.introx envOk Tryz.func123 rfl (by kernel_rfl) Tryz.ntmps123 Tryz.results123 (fun hfr=> ?_)
 refine AW.sr envOk (fun N hN=> ?_)
 simp-dsimp-implicitDefEqProofs (disch:=omega) only[go_sem,undef,w64,hH]
 refine hN _ ?_
 try clear hN N
 refine AW.sr envOk (fun N hN=> ?_)
 simp-dsimp-implicitDefEqProofs (disch:=omega) only[go_sem,undef,w64,hH]
 refine hN _ ?_
 try clear hN N
 refine AW.seq (fun N1 hN1=> ?_)
 refine AW.sr envOk (fun N hN=> ?_)
 simp-dsimp-implicitDefEqProofs (disch:=omega) only[go_sem,undef,w64,hH]
 refine hN _ ?_
 try clear hN N
 refine AW.block ?_
 refine AW.loopN (α:=Nat) (fun x=>sl 36 [(0,.h idl 0 zs.length),(3,.i .i64 (0:Nat)),(9,.h idl 0 zs.length),(10,.i .i64 zs.length),(11,.i .i64 x)]) (fun _=>H) (fun x m=>x≤xss.length∧nx≤m) (fun x=>xss.length-x) (0) ?_ ?_ (fun _ _ h=>h) ?_
 ·exact⟨by omega,by first|omega|(simp only;omega)|(dsimp only;omega)⟩
 ·simp(disch:=omega) [wks,wkA,sl,w64,ints,rows,cubes,w64,hH]<;>omega
 ·skip
  rintro k m ⟨hk,hm⟩
  simp-dsimp-implicitDefEqProofs (disch:=omega) only[go_sem,undef]
  refine AW.sr envOk (fun N hN=> ?_)
  simp-dsimp-implicitDefEqProofs (disch:=omega) only[go_sem,undef,w64,hH]
  refine hN _ ?_
  try clear hN N
  refine AW.seq (fun N2 hN2=> ?_)
  refine AW.cond rfl (fun h1=> ?_) (fun h1=> ?_)
  ·try simp only[cn]at h1
   have hkl:k<xss.length:=by omega
   have hfl:=flA_le hkl
   have hsk:=hs k hkl
   generalize xss.getD k []=y at hsk hfl
   obtain rfl:y=[]:=List.length_eq_zero_iff.1 (by omega)
   rcases hsk.2 with hx|⟨hx,hxe⟩|⟨i,hi,hx,hxi⟩
   all_goals
    refine AW.skip ?_
    simp only[thn,blk]
    refine hN2 _ ?_
    try clear hN2 N2
    refine AW.seq (fun N3 hN3=> ?_)
    refine AW.block ?_
    refine AW.sr envOk (fun N hN=> ?_)
    simp-dsimp-implicitDefEqProofs (disch:=omega) only[go_sem,undef,w64,hH,hx]
    refine hN _ ?_
    try clear hN N
    refine AW.sr envOk (fun N hN=> ?_)
    simp-dsimp-implicitDefEqProofs (disch:=omega) only[go_sem,undef,w64,hH,hx,List.length_nil]
    refine hN _ ?_
    try clear hN N
    refine AW.sr envOk (fun N hN=> ?_)
    simp-dsimp-implicitDefEqProofs (disch:=omega) only[go_sem,undef,w64,hH]
    refine hN _ ?_
    try clear hN N
    refine AW.cond rfl (fun h2=> ?_) (fun h2=> ?_)
    ·try simp only[cn]at h2
     exfalso;omega
    ·try simp only[cn]at h2
     refine AW.skip ?_
     simp only[thn,blk]
     refine hN3 _ ?_
     try clear hN3 N3
     refine AW.regionL envOk ?_
     simp-dsimp-implicitDefEqProofs (disch:=omega) only[go_sem,undef,w64,hH]
     refine⟨k+1,?_,fun _ _ h=>h,?_,?_⟩
     ·simp(disch:=omega) [wks,wkA,sl,w64,ints,rows,cubes,w64,hH]<;>omega
     ·exact⟨by omega,by first|omega|(simp only;omega)|(dsimp only;omega)⟩
     ·first|omega|(simp only;omega)
  ·try simp only[cn]at h1
   refine AW.exit ?_
   simp only[thn,blk,if_true]
   refine hN1 _ ?_
   try clear hN1 N1
   refine AW.sr envOk (fun N hN=> ?_)
   simp-dsimp-implicitDefEqProofs (disch:=omega) only[go_sem,undef,w64,hH]
   refine(slices_Grow_rows_zero _ _).mono ?_
   rintro nx1 H1 r ⟨hx1,rfl,rfl⟩
   refine hN _ ?_
   try clear hN N
   refine AW.seq (fun N4 hN4=> ?_)
   refine AW.sr envOk (fun N hN=> ?_)
   simp-dsimp-implicitDefEqProofs (disch:=omega) only[go_sem,undef,w64,hH]
   refine hN _ ?_
   try clear hN N
   refine AW.block ?_
   refine AW.loopN (α:=Nat) (fun x=>sl 36 [(6,.nl),(25,.h idl 0 zs.length),(26,.i .i64 zs.length),(27,.i .i64 x)]) (fun _=>H1) (fun x m=>x≤xss.length∧nx≤m) (fun x=>xss.length-x) (0) ?_ ?_ (fun _ _ h=>h) ?_
   ·exact⟨by omega,by first|omega|(simp only;omega)|(dsimp only;omega)⟩
   ·simp(disch:=omega) [wks,wkA,sl,w64,ints,rows,cubes,w64,hH]<;>omega
   ·skip
    rintro q m2 ⟨hq,hm2⟩
    simp-dsimp-implicitDefEqProofs (disch:=omega) only[go_sem,undef]
    refine AW.sr envOk (fun N hN=> ?_)
    simp-dsimp-implicitDefEqProofs (disch:=omega) only[go_sem,undef,w64,hH]
    refine hN _ ?_
    try clear hN N
    refine AW.seq (fun N5 hN5=> ?_)
    refine AW.cond rfl (fun h3=> ?_) (fun h3=> ?_)
    ·try simp only[cn]at h3
     have hql:q<xss.length:=by omega
     have hsq:=hs q hql
     have hfl:=flA_le hql
     generalize xss.getD q []=y at hsq hfl
     have hxi:=hH
     obtain rfl:y=[]:=List.length_eq_zero_iff.1 (by omega)
     have hone:(∀z∈([]:List AV),one z=true)=True:=by simp
     rcases hsq.2 with hx|⟨hx,hxe⟩|⟨i,hi,hx,hxi⟩
     all_goals
      refine AW.skip ?_
      simp only[thn,blk]
      refine hN5 _ ?_
      try clear hN5 N5
      refine AW.seq (fun N6 hN6=> ?_)
      refine AW.block ?_
      refine AW.sr envOk (fun N hN=> ?_)
      simp-dsimp-implicitDefEqProofs (disch:=omega) only[go_sem,undef,w64,hH,hx,hone]
      refine hN _ ?_
      try clear hN N
      refine AW.regionL envOk ?_
      simp-dsimp-implicitDefEqProofs (disch:=omega) only[go_sem,undef,w64,hH,hx,hone,hxi,List.take_length,List.length_nil]
      refine hN6 _ ?_
      try clear hN6 N6
      refine AW.regionL envOk ?_
      simp-dsimp-implicitDefEqProofs (disch:=omega) only[go_sem,undef,w64,hH]
      refine⟨q+1,?_,fun _ _ h=>h,?_,?_⟩
      ·simp(disch:=omega) [wks,wkA,sl,w64,ints,rows,cubes,w64,hH]<;>omega
      ·exact⟨by omega,by first|omega|(simp only;omega)|(dsimp only;omega)⟩
      ·first|omega|(simp only;omega)
    ·try simp only[cn]at h3
     refine AW.exit ?_
     simp only[thn,blk,if_true]
     refine hN4 _ ?_
     try clear hN4 N4
     refine AW.sr envOk (fun N hN=> ?_)
     simp-dsimp-implicitDefEqProofs (disch:=omega) only[go_sem,undef,w64,hH]
     refine hN _ ?_
     try clear hN N
     refine AW.ret ?_
     simp-dsimp-implicitDefEqProofs (disch:=omega) only[go_sem,undef]
     exact⟨_,Le.refl _,by omega,fun i hi=>rfl,.inl ⟨List.length_eq_zero_iff.1 h0,rfl⟩⟩
theorem slices_Concat_rows (zs:List AV) (xss:List (List AV)) (hz:zs.length=xss.length) (hl:zs.length≤1000) (idl nx:Nat) (H:HP) (hH:H idl=some zs) (hid:idl<nx) (hs:∀i,i<xss.length→Sls H nx (zs.getD i .j) (xss.getD i [])) (hn:xss.flatten.length≤4000000):
    AC Tryz.prog 123 nx H [.h idl 0 zs.length] (CatP nx H xss.flatten):=by
  rcases Nat.eq_zero_or_pos xss.flatten.length with h|h
  · exact slices_Concat_rows_zero zs xss hz hl idl nx H hH hid hs h
  · exact slices_Concat_rows_pos zs xss hz hl idl nx H hH hid hs h hn
end Go.Proofs.YtnlfbimjcabgiaaGreat
