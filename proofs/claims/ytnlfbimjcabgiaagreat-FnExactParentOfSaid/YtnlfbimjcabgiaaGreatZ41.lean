import Derived.Test.YtnlfbimjcabgiaaGreatZ39
import Derived.Test.YtnlfbimjcabgiaaGreatZ40
set_option linter.unusedVariables false
set_option linter.unusedSimpArgs false
namespace Go.Proofs.YtnlfbimjcabgiaaGreat
open Nat (reduceAdd reduceSub reduceGT reduceEqDiff reduceMul)
theorem vl_snoc {n:Nat} {X:List V} {k:Nat} {y:V} (h:k<X.length) (hy:X.getD k z0=y):(X.take k).map (vi n)++[vi n y]=(X.take (k+1)).map (vi n):=by
  rw[List.take_add_one,List.map_append]
  congr 1
  rw[←hy]
  simp[h]
theorem mpV_getD {f:V→V} {X:List V} {k:Nat} (h:k<X.length):(X.map f).getD k z0=f (X.getD k z0):=by simp[h]
theorem CatP.vw {nx nx' n:Nat} {H H':HP} {r:AV} {X:List V} {zs:List AV} (h:CatP nx H zs nx' H' r) (hz:zs=X.map (vi n)):Vw H' r (vls n X):=by
  obtain⟨h1,h2,⟨h3,rfl⟩|⟨id,cs,h3,h4,rfl,h6,h7⟩⟩:=h
  · have:X=[]:=by rw[h3]at hz;exact List.map_eq_nil_iff.1 hz.symm
    subst this
    exact .nl
  · have hl:zs.length=X.length:=by rw[hz,List.length_map]
    have hcl:zs.length≤cs.length:=by
      have:=congrArg List.length h7
      rw[List.length_take]at this;omega
    unfold vls
    rw[hl]at h7 hcl ⊢
    refine .h id 0 X.length cs _ h6 (by omega) (by simp) (fun k x y h8 h9=> ?_)
    rw[hz]at h7
    have:y=x:=by
      have hk:k<X.length:=by
        have:=(List.getElem?_eq_some_iff.1 h9).1
        simpa using this
      rw[←h7,List.getElem?_take,if_pos hk]at h9
      rw[Nat.zero_add]at h8
      rw[h8]at h9
      exact(Option.some.inj h9).symm
    rw[this]
    exact .refl _
theorem frN_lt {P:Pc} {t t':Nat→Option V} (hG:tbG P t') (hx:∀d y,t d=some y→t' d=some y) (hne:t'≠t):frN t' P.n<frN t P.n:=by
  have:∃d,t' d≠t d:=Classical.byContradiction fun q=>hne (funext fun d=>Classical.byContradiction fun q2=>q ⟨d,q2⟩)
  obtain⟨d,hd⟩:=this
  have ht:t d=none:=by
    cases hq:t d with
    |none=>rfl
    |some y=>exact absurd ((hx d y hq).trans hq.symm) hd
  rw[ht]at hd
  have hdn:d<P.n:=by
    cases hq:t' d with
    |none=>exact absurd hq hd
    |some y=>exact(hG d y hq).1
  exact(frN_ext hx P.n).2 d hdn ht hd
section
variable (os:List Int) (pw:List (List Int)) (cj:List (List (List Int)))
theorem impl_generators_v (hn:os.length≤1000):ACp Tryz.prog 121 [prsP os pw cj] (vls os.length (unL os.length)):=by
 have hul:=unL_len (n:=os.length)
 refine ACp.introV envOk Tryz.func121 rfl (by kernel_rfl) Tryz.ntmps121 Tryz.results121 ((vls_nr _ _)) (fun nx=> ?_)
 refine AW.sr envOk (fun N hN=> ?_)
 simp-dsimp-implicitDefEqProofs (maxSteps:=800000) (disch:=omega) only[go_sem,undef,prsP,vi,w64,ints]
 refine hN _ ?_
 try clear hN N
 refine AW.sr envOk (fun N hN=> ?_)
 simp-dsimp-implicitDefEqProofs (maxSteps:=800000) (disch:=omega) only[go_sem,undef,prsP,vi,w64,ints]
 refine hN _ ?_
 try clear hN N
 refine AW.seq (fun N1 hN1=> ?_)
 refine AW.sr envOk (fun N hN=> ?_)
 simp-dsimp-implicitDefEqProofs (maxSteps:=800000) (disch:=omega) only[go_sem,undef,prsP,vi,w64,ints]
 refine hN _ ?_
 try clear hN N
 refine AW.block ?_
 refine AW.loopN (α:=Nat×Option Nat) (fun x=>sl 25 [(0,prsP os pw cj),(3,oA x.2 x.1),(9,.i .i64 os.length),(10,.i .i64 x.1)]) (fun x=>oH noH x.2 (((unL os.length).take x.1).map (vi os.length))) (fun x m=>(x.1≤os.length∧nx≤m)∧(x.2=none→x.1=0)∧(∀id,x.2=some id→nx≤id∧id<m)) (fun x=>os.length-x.1) ((0,none)) ?_ ?_ (fun _ _ h=>h) ?_
 ·exact⟨⟨by simp,by first|omega|(simp only;omega)|(dsimp only;omega)⟩,fun _=>rfl,by simp⟩
 ·simp[wks,wkA,sl,prsP,ints,rows,cubes,oA]
 ·skip
  rintro⟨k,_|id⟩ m ⟨⟨hk,hm⟩,h0,hid⟩
  ·skip
   simp-dsimp-implicitDefEqProofs (maxSteps:=800000) (disch:=omega) only[go_sem,undef]
   dsimp only[oA,oH]at hk hm h0 hid ⊢
   have hk0:k=0:=h0 rfl
   refine AW.sr envOk (fun N hN=> ?_)
   simp-dsimp-implicitDefEqProofs (maxSteps:=800000) (disch:=omega) only[go_sem,undef,prsP,vi,w64,ints]
   refine hN _ ?_
   try clear hN N
   refine AW.seq (fun N2 hN2=> ?_)
   refine AW.cond rfl (fun h1=> ?_) (fun h1=> ?_)
   ·try simp only[cn]at h1
    refine AW.skip ?_
    simp only[thn,blk]
    refine hN2 _ ?_
    try clear hN2 N2
    refine AW.seq (fun N3 hN3=> ?_)
    refine AW.block ?_
    refine AW.sr envOk (fun N hN=> ?_)
    simp-dsimp-implicitDefEqProofs (maxSteps:=800000) (disch:=omega) only[go_sem,undef,prsP,vi,w64,ints]
    refine hN _ ?_
    try clear hN N
    refine AW.regionL envOk ?_
    simp-dsimp-implicitDefEqProofs (maxSteps:=800000) (disch:=omega) only[go_sem,undef,prsP,vi,w64,ints]
    refine AC.pure (.of (impl_unitVector_v os.length k (by omega) (by omega))) ?_
    try simp-dsimp-implicitDefEqProofs (maxSteps:=800000) (disch:=omega) only[go_sem,undef,prsP,vi,w64,ints]
    refine hN3 _ ?_
    try clear hN3 N3
    refine AW.regionL envOk ?_
    simp-dsimp-implicitDefEqProofs (maxSteps:=800000) (disch:=omega) only[go_sem,undef,prsP,vi,w64,ints]
    refine⟨(k+1,some (m+1+2+9)),?_,by subst hk0;rw[←vl_snoc (by omega) (unL_get (by omega))];intro d cs hd;simp only[oH,upd,noH,vi]at hd ⊢;grind,?_,?_⟩
    ·simp(disch:=omega) [wks,wkA,sl,prsP,ints,rows,cubes,oA,w64]<;>omega
    ·exact⟨⟨by omega,by first|omega|(simp only;omega)|(dsimp only;omega)⟩,by simp,by simp;omega⟩
    ·first|omega|(simp only;omega)
   ·try simp only[cn]at h1
    refine AW.exit ?_
    simp only[thn,blk,if_true]
    refine hN1 _ ?_
    try clear hN1 N1
    refine AW.sr envOk (fun N hN=> ?_)
    simp-dsimp-implicitDefEqProofs (maxSteps:=800000) (disch:=omega) only[go_sem,undef,prsP,vi,w64,ints]
    refine hN _ ?_
    try clear hN N
    refine AW.ret ?_
    simp-dsimp-implicitDefEqProofs (maxSteps:=800000) (disch:=omega) only[go_sem,undef]
    have h00:os.length=0:=by omega
    have:unL os.length=[]:=List.length_eq_zero_iff.1 (by omega)
    rw[this]
    exact .nl
  ·skip
   simp-dsimp-implicitDefEqProofs (maxSteps:=800000) (disch:=omega) only[go_sem,undef]
   dsimp only[oA,oH]at hk hm h0 hid ⊢
   have hidm:=hid id rfl
   have htl:((unL os.length).take k).length=k:=by rw[List.length_take];omega
   refine AW.sr envOk (fun N hN=> ?_)
   simp-dsimp-implicitDefEqProofs (maxSteps:=800000) (disch:=omega) only[go_sem,undef,prsP,vi,w64,ints]
   refine hN _ ?_
   try clear hN N
   refine AW.seq (fun N4 hN4=> ?_)
   refine AW.cond rfl (fun h2=> ?_) (fun h2=> ?_)
   ·try simp only[cn]at h2
    refine AW.skip ?_
    simp only[thn,blk]
    refine hN4 _ ?_
    try clear hN4 N4
    refine AW.seq (fun N5 hN5=> ?_)
    refine AW.block ?_
    refine AW.sr envOk (fun N hN=> ?_)
    simp-dsimp-implicitDefEqProofs (maxSteps:=800000) (disch:=omega) only[go_sem,undef,prsP,vi,w64,ints]
    refine hN _ ?_
    try clear hN N
    refine AW.regionL envOk ?_
    simp-dsimp-implicitDefEqProofs (maxSteps:=800000) (disch:=omega) only[go_sem,undef,prsP,vi,w64,ints]
    refine AC.pure (.of (impl_unitVector_v os.length k (by omega) (by omega))) ?_
    try simp-dsimp-implicitDefEqProofs (maxSteps:=800000) (disch:=omega) only[go_sem,undef,prsP,vi,w64,ints]
    refine hN5 _ ?_
    try clear hN5 N5
    refine AW.regionL envOk ?_
    simp-dsimp-implicitDefEqProofs (maxSteps:=800000) (disch:=omega) only[go_sem,undef,prsP,vi,w64,ints]
    refine⟨(k+1,some (m+1+2+9)),?_,by rw[←vl_snoc (by omega) (unL_get (by omega))];intro d cs hd;simp only[oH,upd,noH,vi]at hd ⊢;grind,?_,?_⟩
    ·simp(disch:=omega) [wks,wkA,sl,prsP,ints,rows,cubes,oA,w64]<;>omega
    ·exact⟨⟨by omega,by first|omega|(simp only;omega)|(dsimp only;omega)⟩,by simp,by simp;omega⟩
    ·first|omega|(simp only;omega)
   ·try simp only[cn]at h2
    refine AW.exit ?_
    simp only[thn,blk,if_true]
    refine hN1 _ ?_
    try clear hN1 N1
    refine AW.sr envOk (fun N hN=> ?_)
    simp-dsimp-implicitDefEqProofs (maxSteps:=800000) (disch:=omega) only[go_sem,undef,prsP,vi,w64,ints]
    refine hN _ ?_
    try clear hN N
    refine AW.ret ?_
    simp-dsimp-implicitDefEqProofs (maxSteps:=800000) (disch:=omega) only[go_sem,undef]
    obtain rfl:k=os.length:=by omega
    rw[show(unL os.length).take os.length=unL os.length from List.take_of_length_le (by omega)]
    unfold vls
    rw[hul]
    exact Vw.blk (upd_same _ _ _) (by simp[hul])
theorem impl_conjugates_v (h:presOk os pw cj) (hc:Con (pc os pw cj) 0) (us:List V) (hl:us.length≤1000) (hu:∀x∈us,T (pc os pw cj) 0 x) (b:V) (hb:T (pc os pw cj) 0 b):ACp Tryz.prog 146 [prsP os pw cj,vls os.length us,vi os.length b] (vls os.length (us.map fun a=>cjE (pc os pw cj) a b)):=by
 have hn6:=h.1.1
 have hT:∀k,k<us.length→T (pc os pw cj) 0 (us.getD k z0):=fun k hk=>hu _ (by rw[List.getD_eq_getElem?_getD,List.getElem?_eq_getElem hk];exact List.getElem_mem _)
 obtain⟨X,hX⟩:∃X,us.map (fun a=>cjE (pc os pw cj) a b)=X:=⟨_,rfl⟩
 have hXl:X.length=us.length:=by rw[←hX,List.length_map]
 have hXg:∀k,k<us.length→X.getD k z0=cjE (pc os pw cj) (us.getD k z0) b:=fun k hk=>by rw[←hX];exact mpV_getD hk
 rw[hX]
 refine ACp.introV envOk Tryz.func146 rfl (by kernel_rfl) Tryz.ntmps146 Tryz.results146 ((vls_nr _ _)) (fun nx=> ?_)
 refine AW.sr envOk (fun N hN=> ?_)
 simp-dsimp-implicitDefEqProofs (maxSteps:=800000) (disch:=omega) only[go_sem,undef,vls,vi,w64]
 refine hN _ ?_
 try clear hN N
 refine AW.sr envOk (fun N hN=> ?_)
 simp-dsimp-implicitDefEqProofs (maxSteps:=800000) (disch:=omega) only[go_sem,undef,vls,vi,w64]
 refine hN _ ?_
 try clear hN N
 refine AW.seq (fun N1 hN1=> ?_)
 refine AW.sr envOk (fun N hN=> ?_)
 simp-dsimp-implicitDefEqProofs (maxSteps:=800000) (disch:=omega) only[go_sem,undef,vls,vi,w64]
 refine hN _ ?_
 try clear hN N
 refine AW.block ?_
 refine AW.loopN (α:=Nat×Option Nat) (fun x=>sl 25 [(0,prsP os pw cj),(2,vi os.length b),(7,oA x.2 x.1),(10,vls os.length us),(11,.i .i64 us.length),(12,.i .i64 x.1)]) (fun x=>oH noH x.2 ((X.take x.1).map (vi os.length))) (fun x m=>(x.1≤us.length∧nx≤m)∧(x.2=none→x.1=0)∧(∀id,x.2=some id→nx≤id∧id<m)) (fun x=>us.length-x.1) ((0,none)) ?_ ?_ (fun _ _ h=>h) ?_
 ·exact⟨⟨by simp,by first|omega|(simp only;omega)|(dsimp only;omega)⟩,fun _=>rfl,by simp⟩
 ·simp[wks,wkA,sl,vls,vi,oA]
 ·skip
  rintro⟨k,_|id⟩ m ⟨⟨hk,hm⟩,h0,hid⟩
  ·skip
   simp-dsimp-implicitDefEqProofs (maxSteps:=800000) (disch:=omega) only[go_sem,undef]
   dsimp only[oA,oH]at hk hm h0 hid ⊢
   have hk0:k=0:=h0 rfl
   refine AW.sr envOk (fun N hN=> ?_)
   simp-dsimp-implicitDefEqProofs (maxSteps:=800000) (disch:=omega) only[go_sem,undef,vls,vi,w64]
   refine hN _ ?_
   try clear hN N
   refine AW.seq (fun N2 hN2=> ?_)
   refine AW.cond rfl (fun h1=> ?_) (fun h1=> ?_)
   ·try simp only[cn]at h1
    refine AW.skip ?_
    simp only[thn,blk]
    refine hN2 _ ?_
    try clear hN2 N2
    refine AW.seq (fun N3 hN3=> ?_)
    refine AW.block ?_
    refine AW.sr envOk (fun N hN=> ?_)
    simp-dsimp-implicitDefEqProofs (maxSteps:=800000) (disch:=omega) only[go_sem,undef,vls,vi,w64]
    refine hN _ ?_
    try clear hN N
    refine AW.regionL envOk ?_
    simp-dsimp-implicitDefEqProofs (maxSteps:=800000) (disch:=omega) only[go_sem,undef,vls,vi,w64]
    refine AC.pure (.of ((impl_conjugate_ok os pw cj h 0 hc _ _ (hT k (by omega)) hb).pure)) ?_
    try simp-dsimp-implicitDefEqProofs (maxSteps:=800000) (disch:=omega) only[go_sem,undef,vls,vi,w64]
    refine hN3 _ ?_
    try clear hN3 N3
    refine AW.regionL envOk ?_
    simp-dsimp-implicitDefEqProofs (maxSteps:=800000) (disch:=omega) only[go_sem,undef,vls,vi,w64]
    refine⟨(k+1,some (m+1+3+6)),?_,by subst hk0;rw[←vl_snoc (by omega) (hXg _ (by omega))];intro d cs hd;simp only[oH,upd,noH,vi,cjE]at hd ⊢;grind,?_,?_⟩
    ·simp(disch:=omega) [wks,wkA,sl,vls,vi,oA,w64]<;>omega
    ·exact⟨⟨by omega,by first|omega|(simp only;omega)|(dsimp only;omega)⟩,by simp,by simp;omega⟩
    ·first|omega|(simp only;omega)
   ·try simp only[cn]at h1
    refine AW.exit ?_
    simp only[thn,blk,if_true]
    refine hN1 _ ?_
    try clear hN1 N1
    refine AW.sr envOk (fun N hN=> ?_)
    simp-dsimp-implicitDefEqProofs (maxSteps:=800000) (disch:=omega) only[go_sem,undef,vls,vi,w64]
    refine hN _ ?_
    try clear hN N
    refine AW.ret ?_
    simp-dsimp-implicitDefEqProofs (maxSteps:=800000) (disch:=omega) only[go_sem,undef]
    have:X=[]:=List.length_eq_zero_iff.1 (by omega)
    rw[this]
    exact .nl
  ·skip
   simp-dsimp-implicitDefEqProofs (maxSteps:=800000) (disch:=omega) only[go_sem,undef]
   dsimp only[oA,oH]at hk hm h0 hid ⊢
   have hidm:=hid id rfl
   have htl:(X.take k).length=k:=by rw[List.length_take];omega
   refine AW.sr envOk (fun N hN=> ?_)
   simp-dsimp-implicitDefEqProofs (maxSteps:=800000) (disch:=omega) only[go_sem,undef,vls,vi,w64]
   refine hN _ ?_
   try clear hN N
   refine AW.seq (fun N4 hN4=> ?_)
   refine AW.cond rfl (fun h2=> ?_) (fun h2=> ?_)
   ·try simp only[cn]at h2
    refine AW.skip ?_
    simp only[thn,blk]
    refine hN4 _ ?_
    try clear hN4 N4
    refine AW.seq (fun N5 hN5=> ?_)
    refine AW.block ?_
    refine AW.sr envOk (fun N hN=> ?_)
    simp-dsimp-implicitDefEqProofs (maxSteps:=800000) (disch:=omega) only[go_sem,undef,vls,vi,w64]
    refine hN _ ?_
    try clear hN N
    refine AW.regionL envOk ?_
    simp-dsimp-implicitDefEqProofs (maxSteps:=800000) (disch:=omega) only[go_sem,undef,vls,vi,w64]
    refine AC.pure (.of ((impl_conjugate_ok os pw cj h 0 hc _ _ (hT k (by omega)) hb).pure)) ?_
    try simp-dsimp-implicitDefEqProofs (maxSteps:=800000) (disch:=omega) only[go_sem,undef,vls,vi,w64]
    refine hN5 _ ?_
    try clear hN5 N5
    refine AW.regionL envOk ?_
    simp-dsimp-implicitDefEqProofs (maxSteps:=800000) (disch:=omega) only[go_sem,undef,vls,vi,w64]
    refine⟨(k+1,some (m+1+3+6)),?_,by rw[←vl_snoc (by omega) (hXg _ (by omega))];intro d cs hd;simp only[oH,upd,noH,vi,cjE]at hd ⊢;grind,?_,?_⟩
    ·simp(disch:=omega) [wks,wkA,sl,vls,vi,oA,w64]<;>omega
    ·exact⟨⟨by omega,by first|omega|(simp only;omega)|(dsimp only;omega)⟩,by simp,by simp;omega⟩
    ·first|omega|(simp only;omega)
   ·try simp only[cn]at h2
    refine AW.exit ?_
    simp only[thn,blk,if_true]
    refine hN1 _ ?_
    try clear hN1 N1
    refine AW.sr envOk (fun N hN=> ?_)
    simp-dsimp-implicitDefEqProofs (maxSteps:=800000) (disch:=omega) only[go_sem,undef,vls,vi,w64]
    refine hN _ ?_
    try clear hN N
    refine AW.ret ?_
    simp-dsimp-implicitDefEqProofs (maxSteps:=800000) (disch:=omega) only[go_sem,undef]
    obtain rfl:k=us.length:=by omega
    rw[show X.take us.length=X from List.take_of_length_le (by omega)]
    unfold vls
    rw[hXl]
    exact Vw.blk (upd_same _ _ _) (by simp[hXl])
set_option maxRecDepth 20000 in
set_option maxHeartbeats 1000000 in
theorem impl_closure_n (h:presOk os pw cj) (hc:Con (pc os pw cj) 0) (us bs:List V) (hl:us.length≤1000) (hbl:bs.length≤1000) (hu:∀x∈us,T (pc os pw cj) 0 x) (hb:∀x∈bs,T (pc os pw cj) 0 x) (nx:Nat):AC Tryz.prog 122 nx noH [prsP os pw cj,vls os.length us,vls os.length bs] (fun nx' H' r=>OwZ os.length nx nx' noH H' r (ccL (pc os pw cj) us bs)):=by
 have hn6:=h.1.1
 have hv:=h.val
 have hpr:=h.2.1
 have hp:∀d,d<(pc os pw cj).n→pr4 ((pc os pw cj).o d):=fun d hd=>hpr d hd
 have hn0:(pc os pw cj).n=os.length:=rfl
 have hst:=ClI.start hv hc hp hu hb
 have hbm:∀k,k<bs.length→bs.getD k z0∈bs:=fun k hk=>by rw[List.getD_eq_getElem?_getD,List.getElem?_eq_getElem hk];exact List.getElem_mem _
 refine AC.introx envOk Tryz.func122 rfl (by kernel_rfl) Tryz.ntmps122 Tryz.results122 (fun hfr=> ?_)
 refine AW.sr envOk (fun N hN=> ?_)
 simp-dsimp-implicitDefEqProofs (maxSteps:=800000) (disch:=omega) only[go_sem,undef,w64,vls]
 refine hN _ ?_
 try clear hN N
 refine AW.sr envOk (fun N hN=> ?_)
 simp-dsimp-implicitDefEqProofs (maxSteps:=800000) (disch:=omega) only[go_sem,undef,w64,vls]
 refine(impl_newSequence_ok os pw cj (by omega) _ _).mono2 ?_
 rintro m1 H1 r1 hm1 ⟨ids,id2,rfl,⟨i1,i2,i3,i4,i5⟩,rfl⟩
 try simp-dsimp-implicitDefEqProofs (maxSteps:=800000) (disch:=omega) only[go_sem,undef,w64,vls]
 refine hN _ ?_
 try clear hN N
 refine AW.sr envOk (fun N hN=> ?_)
 simp-dsimp-implicitDefEqProofs (maxSteps:=800000) (disch:=omega) only[go_sem,undef,w64,vls]
 refine(impl_add_ok os pw cj h hc (fun _=>none) (fun d y hy=>by cases hy) us hl hu _ _ ids id2 i5 (upd_same _ _ _) ((upd_ne _ _ (Ne.symm i5)).trans (upd_same _ _ _))).mono2 ?_
 rintro m2 H2 r2 hm2 ⟨rfl,rfl⟩
 try simp-dsimp-implicitDefEqProofs (maxSteps:=800000) (disch:=omega) only[go_sem,undef,w64,vls]
 refine hN _ ?_
 try clear hN N
 refine AW.seq (fun N1 hN1=> ?_)
 refine AW.sr envOk (fun N hN=> ?_)
 simp-dsimp-implicitDefEqProofs (maxSteps:=800000) (disch:=omega) only[go_sem,undef,w64,vls]
 refine hN _ ?_
 try clear hN N
 refine AW.block ?_
 refine AW.loopN (α:=(Nat→Option V)×Bool) (fun x=>sl 35 [(0,prsP os pw cj),(2,vls os.length bs),(7,.q ids 0),(8,.b x.2)]) (fun x=>upd (upd noH id2 (some (tbn os.length x.1))) ids (some [prsP os pw cj,.h id2 0 os.length])) (fun x m=>ClI (pc os pw cj) us bs x.1∧(x.2=false→∀b∈bs,∀a∈outR (pc os pw cj) x.1 0,SpT (pc os pw cj) x.1 (cjE (pc os pw cj) a b))∧ids<m∧id2<m∧nx≤m) (fun x=>2*frN x.1 os.length+(if x.2=true then 1 else 0)) ((adT (pc os pw cj) (fun _=>none) us,true)) ?_ ?_ (by intro d cs hd;simp only[upd,noH]at hd ⊢;grind) ?_
 ·exact⟨hst,(fun q=>by cases q),by first|omega|(simp only;omega)|(dsimp only;omega),by first|omega|(simp only;omega)|(dsimp only;omega),by first|omega|(simp only;omega)|(dsimp only;omega)⟩
 ·simp(disch:=omega) [wks,wkA,sl,prsP,ints,rows,cubes,vls]
 ·skip
  rintro⟨t,gr⟩ m ⟨hI,hno,hq1,hq2,hq7⟩
  dsimp only at hI hno hq1 hq2 hq7 ⊢
  have hcn9:=outR_cn hv hc hI.c
  have hlen:=hcn9.len
  rw[hn0]at hlen
  have hSt:=spT_sbg hv hc hI.c
  simp-dsimp-implicitDefEqProofs (maxSteps:=800000) (disch:=omega) only[go_sem,undef]
  refine AW.seq (fun N2 hN2=> ?_)
  refine AW.sr envOk (fun N hN=> ?_)
  simp-dsimp-implicitDefEqProofs (maxSteps:=800000) (disch:=omega) only[go_sem,undef,w64,vls]
  refine hN _ ?_
  try clear hN N
  refine AW.cond rfl (fun h1=> ?_) (fun h1=> ?_)
  ·try simp only[cn]at h1
   have hgt:gr=true:=by first|exact h1|simpa using h1
   subst hgt
   refine AW.skip ?_
   simp only[thn,blk]
   refine hN2 _ ?_
   try clear hN2 N2
   refine AW.block ?_
   refine AW.sr envOk (fun N hN=> ?_)
   simp-dsimp-implicitDefEqProofs (maxSteps:=800000) (disch:=omega) only[go_sem,undef,w64,vls]
   refine hN _ ?_
   try clear hN N
   refine AW.sr envOk (fun N hN=> ?_)
   simp-dsimp-implicitDefEqProofs (maxSteps:=800000) (disch:=omega) only[go_sem,undef,w64,vls]
   refine(impl_canonical_ok os pw cj h hc t hI.G _ _ ids id2 (upd_same _ _ _) ((upd_ne _ _ (Ne.symm i5)).trans (upd_same _ _ _))).mono2 ?_
   rintro m3 H3 r3 hm3 ⟨rfl,rfl⟩
   try simp-dsimp-implicitDefEqProofs (maxSteps:=800000) (disch:=omega) only[go_sem,undef,w64,vls]
   obtain⟨ws,hws⟩:∃ws,outR (pc os pw cj) t 0=ws:=⟨_,rfl⟩
   rw[hws]at hcn9 hlen hno ⊢
   try simp-dsimp-implicitDefEqProofs (maxSteps:=800000) (disch:=omega) only[go_sem,undef,w64,vls]
   refine hN _ ?_
   try clear hN N
   refine AW.sr envOk (fun N hN=> ?_)
   simp-dsimp-implicitDefEqProofs (maxSteps:=800000) (disch:=omega) only[go_sem,undef,w64,vls]
   refine hN _ ?_
   try clear hN N
   refine AW.block ?_
   refine AW.loopN (α:=Nat×(Nat→Option V)) (fun x=>sl 35 [(0,prsP os pw cj),(2,vls os.length bs),(7,.q ids 0),(8,.b (tf (x.2≠t))),(9,vls os.length ws),(20,vls os.length bs),(21,.i .i64 bs.length),(22,.i .i64 x.1)]) (fun x=>upd (upd noH id2 (some (tbn os.length x.2))) ids (some [prsP os pw cj,.h id2 0 os.length])) (fun x m=>(x.1≤bs.length∧ids<m∧id2<m∧nx≤m)∧ClI (pc os pw cj) us bs x.2∧(∀v,SpT (pc os pw cj) t v→SpT (pc os pw cj) x.2 v)∧(∀d y,t d=some y→x.2 d=some y)∧∀k,k<x.1→∀a∈ws,SpT (pc os pw cj) x.2 (cjE (pc os pw cj) a (bs.getD k z0))) (fun x=>bs.length-x.1) ((0,t)) ?_ ?_ (fun _ _ h=>h) ?_
   ·exact⟨⟨Nat.zero_le _,by first|omega|(simp only;omega)|(dsimp only;omega),by first|omega|(simp only;omega)|(dsimp only;omega),by first|omega|(simp only;omega)|(dsimp only;omega)⟩,hI,fun _ q=>q,fun _ _ q=>q,fun k hk=>by omega⟩
   ·simp(disch:=omega) [wks,wkA,sl,prsP,ints,rows,cubes,vls,tf]<;>omega
   ·skip
    rintro⟨q,t2⟩ m5 ⟨⟨hq,hq3,hq4,hq8⟩,hI2,hup,hext,hall⟩
    dsimp only at hq hq3 hq4 hq8 hI2 hup hext hall ⊢
    have hwS:∀w∈ws,SpT (pc os pw cj) t2 w:=fun w hw=>hup w (hcn9.S hw)
    simp-dsimp-implicitDefEqProofs (maxSteps:=800000) (disch:=omega) only[go_sem,undef]
    refine AW.sr envOk (fun N hN=> ?_)
    simp-dsimp-implicitDefEqProofs (maxSteps:=800000) (disch:=omega) only[go_sem,undef,w64,vls]
    refine hN _ ?_
    try clear hN N
    refine AW.seq (fun N3 hN3=> ?_)
    refine AW.cond rfl (fun h2=> ?_) (fun h2=> ?_)
    ·try simp only[cn]at h2
     have hbq:=hbm q (by omega)
     obtain⟨b,hbe⟩:∃b,bs.getD q z0=b:=⟨_,rfl⟩
     rw[hbe]at hbq
     have hwT:∀x∈ws,T (pc os pw cj) 0 x:=fun x hx=>hSt.n (hcn9.S hx)
     obtain⟨n1,n2,n3,n4,n5⟩:=hI2.next hv hc hp hu hb hbq hwS
     rw[hn0]at n4
     have hcT:∀x∈ws.map (fun a=>cjE (pc os pw cj) a b),T (pc os pw cj) 0 x:=fun x hx=>by
      obtain⟨a,ha,rfl⟩:=List.mem_map.1 hx
      exact(cjE_T hv hc (hwT a ha) (hb b hbq)).1
     have hcj:=impl_conjugates_v os pw cj h hc ws (by omega) hwT b (hb b hbq)
     have hcl:(ws.map fun a=>cjE (pc os pw cj) a b).length=ws.length:=List.length_map _
     obtain⟨cs,hcs⟩:∃cs,ws.map (fun a=>cjE (pc os pw cj) a b)=cs:=⟨_,rfl⟩
     rw[hcs]at n1 n2 n3 n4 n5 hcT hcj hcl
     refine AW.skip ?_
     simp only[thn,blk]
     refine hN3 _ ?_
     try clear hN3 N3
     refine AW.seq (fun N4 hN4=> ?_)
     refine AW.block ?_
     refine AW.sr envOk (fun N hN=> ?_)
     simp-dsimp-implicitDefEqProofs (maxSteps:=800000) (disch:=omega) only[go_sem,undef,w64,vls,hbe]
     refine hN _ ?_
     try clear hN N
     refine AW.sr envOk (fun N hN=> ?_)
     simp-dsimp-implicitDefEqProofs (maxSteps:=800000) (disch:=omega) only[go_sem,undef,w64,vls]
     refine AC.pure (.of (hcj)) ?_
     try simp-dsimp-implicitDefEqProofs (maxSteps:=800000) (disch:=omega) only[go_sem,undef,w64,vls]
     refine(impl_add_ok os pw cj h hc t2 hI2.G cs (by omega) hcT _ _ ids id2 i5 (upd_same _ _ _) ((upd_ne _ _ (Ne.symm i5)).trans (upd_same _ _ _))).mono2 ?_
     rintro m6 H6 r6 hm6 ⟨rfl,rfl⟩
     try simp-dsimp-implicitDefEqProofs (maxSteps:=800000) (disch:=omega) only[go_sem,undef,w64,vls]
     obtain⟨t3,ht3⟩:∃t3,adT (pc os pw cj) t2 cs=t3:=⟨_,rfl⟩
     rw[ht3]at n1 n2 n3 n4 n5 ⊢
     have hal2:∀k,k<q+1→∀a∈ws,SpT (pc os pw cj) t3 (cjE (pc os pw cj) a (bs.getD k z0)):=fun k hk=>by
      rcases Nat.lt_or_ge k q with z|z
      ·exact fun a ha=>n2 _ (hall k z a ha)
      ·obtain rfl:k=q:=by omega
       rw[hbe];exact n3
     try simp-dsimp-implicitDefEqProofs (maxSteps:=800000) (disch:=omega) only[go_sem,undef,w64,vls]
     refine hN _ ?_
     try clear hN N
     refine AW.cond rfl (fun h3=> ?_) (fun h3=> ?_)
     ·try simp only[cn]at h3
      have hne3:t3≠t2:=by first|exact h3|(intro e;simp[e]at h3)
      have hnt:t3≠t:=fun e=>hne3 (funext fun d=>by
       cases hq5:t2 d with
       |some y=>exact n5 d y hq5
       | none=>
        cases hq6:t3 d with
        |none=>rfl
        |some y=>
         rw[e]at hq6
         rw[hext d y hq6]at hq5;cases hq5)
      have htf3:tf (t3≠t)=true:=tf_t hnt
      refine AW.regionL envOk ?_
      simp-dsimp-implicitDefEqProofs (maxSteps:=800000) (disch:=omega) only[go_sem,undef,w64,vls]
      refine hN4 _ ?_
      try clear hN4 N4
      refine AW.regionL envOk ?_
      simp-dsimp-implicitDefEqProofs (maxSteps:=800000) (disch:=omega) only[go_sem,undef,w64,vls]
      refine⟨(q+1,t3),?_,by intro d cs hd;simp only[upd,noH]at hd ⊢;grind,?_,?_⟩
      ·simp(disch:=omega) [wks,wkA,sl,w64,ints,rows,cubes,w64,vls]<;>omega
      ·first|exact⟨⟨by first|omega|(simp only;omega)|(dsimp only;omega),by first|omega|(simp only;omega)|(dsimp only;omega),by first|omega|(simp only;omega)|(dsimp only;omega),by first|omega|(simp only;omega)|(dsimp only;omega)⟩,n1,fun v hv3=>n2 v (hup v hv3),fun d y hy=>n5 d y (hext d y hy),hal2⟩|exact⟨by first|omega|(simp only;omega)|(dsimp only;omega),n1,fun v hv3=>n2 v (hup v hv3),fun d y hy=>n5 d y (hext d y hy),hal2⟩
      ·first|omega|(simp only;omega)
     ·try simp only[cn]at h3
      have he3:t3=t2:=by first|exact Classical.byContradiction h3|(apply Classical.byContradiction;intro e;simp[e]at h3)
      subst he3
      refine AW.skip ?_
      simp only[thn,blk]
      refine hN4 _ ?_
      try clear hN4 N4
      refine AW.regionL envOk ?_
      simp-dsimp-implicitDefEqProofs (maxSteps:=800000) (disch:=omega) only[go_sem,undef,w64,vls]
      refine⟨(q+1,t3),?_,by intro d cs hd;simp only[upd,noH]at hd ⊢;grind,?_,?_⟩
      ·simp(disch:=omega) [wks,wkA,sl,w64,ints,rows,cubes,w64,vls]<;>omega
      ·first|exact⟨⟨by first|omega|(simp only;omega)|(dsimp only;omega),by first|omega|(simp only;omega)|(dsimp only;omega),by first|omega|(simp only;omega)|(dsimp only;omega),by first|omega|(simp only;omega)|(dsimp only;omega)⟩,n1,fun v hv3=>n2 v (hup v hv3),fun d y hy=>n5 d y (hext d y hy),hal2⟩|exact⟨by first|omega|(simp only;omega)|(dsimp only;omega),n1,fun v hv3=>n2 v (hup v hv3),fun d y hy=>n5 d y (hext d y hy),hal2⟩
      ·first|omega|(simp only;omega)
    ·try simp only[cn]at h2
     have hqb:q=bs.length:=by omega
     subst hqb
     have hmz:2*frN t2 os.length+(if tf (t2≠t)=true then 1 else 0)<2*frN t os.length+1:=by
      by_cases e:t2=t
      ·rw[tf_f (fun z=>z e),e];simp
      ·rw[tf_t e]
       have:=frN_lt hI2.G hext e
       rw[hn0]at this
       simp;omega
     refine AW.exit ?_
     simp only[thn,blk,if_true]
     refine⟨(t2,tf (t2≠t)),?_,fun _ _ h=>h,?_,?_⟩
     ·simp(disch:=omega) [wks,wkA,sl,w64,ints,rows,cubes,w64,vls]<;>omega
     ·refine⟨hI2,fun hf=> ?_,by first|omega|(simp only;omega)|(dsimp only;omega),by first|omega|(simp only;omega)|(dsimp only;omega),by first|omega|(simp only;omega)|(dsimp only;omega)⟩
      have he2:t2=t:=Classical.byContradiction fun q=>by rw[tf_t q]at hf;cases hf
      subst he2
      intro b hbb
      obtain⟨k,hk,rfl⟩:=List.getElem_of_mem hbb
      have:=hall k hk
      rw[List.getD_eq_getElem?_getD,List.getElem?_eq_getElem hk]at this
      rw[hws]
      exact this
     ·exact hmz
  ·try simp only[cn]at h1
   have hgf:gr=false:=by first|exact h1|simpa using h1
   subst hgf
   refine AW.exit ?_
   simp only[thn,blk,if_true]
   refine hN1 _ ?_
   try clear hN1 N1
   refine AW.sr envOk (fun N hN=> ?_)
   simp-dsimp-implicitDefEqProofs (maxSteps:=800000) (disch:=omega) only[go_sem,undef,w64,vls]
   refine(impl_canonical_n os pw cj h hc t hI.G _ _ ids id2 (upd_same _ _ _) ((upd_ne _ _ (Ne.symm i5)).trans (upd_same _ _ _))).mono2 ?_
   rintro m9 H9 r9 hm9 (⟨id9,rfl,hi9,hj9,rfl⟩|⟨he9,rfl,rfl⟩)
   ·skip
    try simp-dsimp-implicitDefEqProofs (maxSteps:=800000) (disch:=omega) only[go_sem,undef,w64,vls]
    refine hN _ ?_
    try clear hN N
    refine AW.ret ?_
    simp-dsimp-implicitDefEqProofs (maxSteps:=800000) (disch:=omega) only[go_sem,undef]
    rw[hI.fin hv hc hp hu hb (hno rfl)]
    exact⟨_,le_noS,.inl ⟨id9,rfl,by omega,by omega,rfl⟩⟩
   ·skip
    try simp-dsimp-implicitDefEqProofs (maxSteps:=800000) (disch:=omega) only[go_sem,undef,w64,vls]
    refine hN _ ?_
    try clear hN N
    refine AW.ret ?_
    simp-dsimp-implicitDefEqProofs (maxSteps:=800000) (disch:=omega) only[go_sem,undef]
    rw[hI.fin hv hc hp hu hb (hno rfl)]at he9
    exact⟨noH,(fun _ _ h=>by cases h),.inr ⟨he9,rfl,rfl⟩⟩
end
end Go.Proofs.YtnlfbimjcabgiaaGreat
