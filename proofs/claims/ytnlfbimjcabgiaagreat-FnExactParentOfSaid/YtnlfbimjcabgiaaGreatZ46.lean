import Derived.Test.YtnlfbimjcabgiaaGreatZ45
set_option linter.unusedVariables false
set_option linter.unusedSimpArgs false
namespace Go.Proofs.YtnlfbimjcabgiaaGreat
open Nat (reduceAdd reduceSub reduceGT reduceEqDiff reduceMul)
theorem vls_rows {n:Nat} {us:List V}:vls n us=rows (us.map (vec n)):=by
  unfold vls rows
  rw[List.map_map,List.length_map]
  congr 1
  refine List.map_congr_left fun x _=> ?_
  exact(vi_ints).symm
theorem OwZ.opt {n nx nx':Nat} {H':HP} {r:AV} {X:List V} (h:OwZ n nx nx' noH H' r X):∃o:Option Nat,r=oA o X.length∧H'=oH noH o (X.map (vi n))∧(o=none→X=[])∧∀id,o=some id→nx≤id∧id<nx':=by
  rcases h with ⟨id,rfl,h1,h2,rfl⟩|⟨h1,rfl,rfl⟩
  · exact⟨some id,rfl,rfl,(by simp),fun i e=>by cases e;exact⟨h1,h2⟩⟩
  · exact⟨none,rfl,rfl,fun _=>h1,by simp⟩
section
variable (os:List Int) (pw:List (List Int)) (cj:List (List (List Int)))
theorem map_vec_eq {us vs:List V} (hu:∀x∈us,T (pc os pw cj) 0 x) (hw:∀x∈vs,T (pc os pw cj) 0 x):us.map (vec os.length)=vs.map (vec os.length)↔us=vs:=by
  refine⟨fun e=> ?_,fun e=>by rw[e]⟩
  induction us generalizing vs with
  | nil=>
    cases vs with
    |nil=>rfl
    |cons b vs=>simp at e
  | cons a us ih=>
    cases vs with
    |nil=>simp at e
    | cons b vs=>
      rw[List.map_cons,List.map_cons,List.cons.injEq]at e
      rw[(T.vec_eq (hu a List.mem_cons_self) (hw b List.mem_cons_self)).1 e.1,ih (fun x hx=>hu x (List.mem_cons_of_mem _ hx)) (fun x hx=>hw x (List.mem_cons_of_mem _ hx)) e.2]
theorem impl_sameRows_v (hn:os.length≤1000) {us vs:List V} (hl:us.length≤1000) (hl2:vs.length≤1000) (hu:∀x∈us,T (pc os pw cj) 0 x) (hw:∀x∈vs,T (pc os pw cj) 0 x):ACp Tryz.prog 120 [vls os.length us,vls os.length vs] (.b (tf (us=vs))):=by
  have hr:∀us:List V,us.length≤1000→rowslen (us.map (vec os.length)):=fun us hl=>⟨by rw[List.length_map];omega,fun x hx=>by obtain⟨a,_,rfl⟩:=List.mem_map.1 hx;rw[vec_len];omega⟩
  have:=impl_sameRows_ok (us.map (vec os.length)) (vs.map (vec os.length)) (hr us hl) (hr vs hl2)
  rw[tf_eq (map_vec_eq os pw cj hu hw)]at this
  rw[vls_rows,vls_rows]
  exact this
theorem impl_whole_v (hn:os.length≤1000):ACp Tryz.prog 78 [prsP os pw cj] (vls os.length (unL os.length)):=by
 refine ACp.intro' envOk Tryz.func78 rfl (by kernel_rfl) Tryz.ntmps78 Tryz.results78 (vls_nr _ _) (fun nx=> ?_)
 refine AW.sr envOk (fun N hN=> ?_)
 simp-dsimp-implicitDefEqProofs (maxSteps:=800000) (disch:=omega) only[go_sem,undef,prsP,w64]
 refine hN _ ?_
 try clear hN N
 refine AW.sr envOk (fun N hN=> ?_)
 simp-dsimp-implicitDefEqProofs (maxSteps:=800000) (disch:=omega) only[go_sem,undef,prsP,w64]
 refine AC.pure (.of (impl_generators_v os pw cj hn)) ?_
 try simp-dsimp-implicitDefEqProofs (maxSteps:=800000) (disch:=omega) only[go_sem,undef,prsP,w64]
 refine hN _ ?_
 try clear hN N
 refine AW.ret ?_
 simp-dsimp-implicitDefEqProofs (maxSteps:=800000) (disch:=omega) only[go_sem,undef]
 skip
set_option maxRecDepth 20000 in
set_option maxHeartbeats 1000000 in
theorem impl_lowerExponent_1_v (h:presOk os pw cj) (hc:Con (pc os pw cj) 0) (q:Int) (hq:0≤q∧q≤1000) (us:List V) (hl:us.length≤6) (hu:∀x∈us,T (pc os pw cj) 0 x):ACp Tryz.prog 79 [vls os.length us,.p 0 [prsP os pw cj],.p 0 [.i .i64 q]] (vls os.length (exN (pc os pw cj) q us)):=by
 have hn6:=h.1.1
 have hv:=h.val
 have hpr:=h.2.1
 have hp:∀d,d<(pc os pw cj).n→pr4 ((pc os pw cj).o d):=fun d hd=>hpr d hd
 have hn0:(pc os pw cj).n=os.length:=rfl
 have hul:=unL_len (n:=os.length)
 have hU:∀x∈unL os.length,T (pc os pw cj) 0 x:=unL_T hv
 have cn1:=cmL_cn hv hc hp hu hU
 have hCl:=cn1.len
 rw[hn0]at hCl
 have hcomm:=fun n9=>impl_commutatorSubgroup_n os pw cj h hc us (unL os.length) hl (by omega) hu hU n9
 have hGT:=exG_T hv hc hp hu (q:=q)
 have hGe:exG (pc os pw cj) q us=cmL (pc os pw cj) us (unL os.length)++us.map fun x=>pwV (pc os pw cj) x q:=rfl
 have hGl:(exG (pc os pw cj) q us).length=(cmL (pc os pw cj) us (unL os.length)).length+us.length:=by rw[hGe,List.length_append,List.length_map]
 have hclo:=impl_generated_ok os pw cj h hc (exG (pc os pw cj) q us) (by omega) hGT
 rw[show cloU (pc os pw cj) (exG (pc os pw cj) q us)=exN (pc os pw cj) q us from rfl]at hclo
 obtain⟨C,hC⟩:∃C,cmL (pc os pw cj) us (unL os.length)=C:=⟨_,rfl⟩
 rw[hC]at hCl hcomm hGe hGl
 refine ACp.intro' envOk Tryz.func79 rfl (by kernel_rfl) Tryz.ntmps79 Tryz.results79 (vls_nr _ _) (fun nx=> ?_)
 refine AW.sr envOk (fun N hN=> ?_)
 simp-dsimp-implicitDefEqProofs (maxSteps:=800000) (disch:=omega) only[go_sem,undef,prsP,w64,vls,vi,one_viT,tk_map,List.length_map]
 refine hN _ ?_
 try clear hN N
 refine AW.seq (fun N hN=> ?_)
 refine AW.drawF envOk (by kernel_rfl) [true,true,true,false,false,false] (by kernel_rfl) ?_
 simp-dsimp-implicitDefEqProofs (maxSteps:=800000) (disch:=omega) only[go_sem,undef,prsP,w64,vls,vi,one_viT,tk_map,List.length_map]
 refine AC.pure (.of (impl_whole_v os pw cj (by omega))) ?_
 try simp-dsimp-implicitDefEqProofs (maxSteps:=800000) (disch:=omega) only[go_sem,undef,prsP,w64,vls,vi,one_viT,tk_map,List.length_map]
 refine(hcomm _).mono2 ?_
 rintro m9 H9 r9 hm9 hO
 obtain⟨o9,rfl,rfl,ho9,hi9⟩:=hO.opt
 try simp-dsimp-implicitDefEqProofs (maxSteps:=800000) (disch:=omega) only[go_sem,undef,prsP,w64,vls,vi,one_viT,tk_map,List.length_map]
 refine hN _ ?_
 try clear hN N
 refine AW.seq (fun N1 hN1=> ?_)
 refine AW.sr envOk (fun N hN=> ?_)
 simp-dsimp-implicitDefEqProofs (maxSteps:=800000) (disch:=omega) only[go_sem,undef,prsP,w64,vls,vi,one_viT,tk_map,List.length_map]
 refine hN _ ?_
 try clear hN N
 refine AW.block ?_
 refine AW.loopN (α:=Nat×Option Nat) (fun x=>sl 30 [(1,.p 0 [prsP os pw cj]),(2,.p 0 [.i .i64 q]),(5,oA x.2 (C.length+x.1)),(13,vls os.length us),(14,.i .i64 us.length),(15,.i .i64 x.1)]) (fun x=>oH noH x.2 ((C++(us.take x.1).map fun x=>pwV (pc os pw cj) x q).map (vi os.length))) (fun x m=>(x.1≤us.length∧nx≤m)∧(x.2=none→C=[]∧x.1=0)∧(∀id,x.2=some id→nx≤id∧id<m)) (fun x=>us.length-x.1) ((0,o9)) ?_ ?_ (by simp only[List.take_zero,List.map_nil,List.append_nil];exact Le.refl _) ?_
 ·exact⟨⟨by simp,by first|omega|(simp only;omega)|(dsimp only;omega)⟩,fun e=>⟨ho9 e,rfl⟩,fun id e=>(have:=hi9 id e;⟨by omega,by first|omega|(simp only;omega)|(dsimp only;omega)⟩)⟩
 ·simp(disch:=omega) [wks,wkA,sl,prsP,ints,rows,cubes,vls]
 ·skip
  rintro⟨k,(_|id)⟩ m ⟨⟨hk,hm⟩,h0,hid⟩
  ·skip
   simp-dsimp-implicitDefEqProofs (maxSteps:=800000) (disch:=omega) only[go_sem,undef]
   dsimp only[oA,oH]at hk hm h0 hid ⊢
   obtain⟨hC0,hk0⟩:=h0 rfl
   have hCl0:C.length=0:=by rw[hC0];rfl
   refine AW.sr envOk (fun N hN=> ?_)
   simp-dsimp-implicitDefEqProofs (maxSteps:=800000) (disch:=omega) only[go_sem,undef,prsP,w64,vls,vi,one_viT,tk_map,List.length_map]
   refine hN _ ?_
   try clear hN N
   refine AW.seq (fun N2 hN2=> ?_)
   refine AW.cond rfl (fun h1=> ?_) (fun h1=> ?_)
   ·try simp only[cn]at h1
    have hms:=map_step (f:=fun x=>pwV (pc os pw cj) x q) (show k<us.length by omega) rfl
    have hxT:=hu _ (mem_getD (show k<us.length by omega))
    have hpo:=impl_power_i h 0 hc _ hxT q hq.1 (by omega)
    rw[pwV_rep hq.1]at hpo
    refine AW.skip ?_
    simp only[thn,blk]
    refine hN2 _ ?_
    try clear hN2 N2
    refine AW.seq (fun N3 hN3=> ?_)
    refine AW.block ?_
    refine AW.sr envOk (fun N hN=> ?_)
    simp-dsimp-implicitDefEqProofs (maxSteps:=800000) (disch:=omega) only[go_sem,undef,prsP,w64,vls,vi,one_viT,tk_map,List.length_map]
    refine hN _ ?_
    try clear hN N
    refine AW.regionL envOk ?_
    simp-dsimp-implicitDefEqProofs (maxSteps:=800000) (disch:=omega) only[go_sem,undef,prsP,w64,vls,vi,one_viT,tk_map,List.length_map]
    refine AC.pure (.of (hpo)) ?_
    try simp-dsimp-implicitDefEqProofs (maxSteps:=800000) (disch:=omega) only[go_sem,undef,prsP,w64,vls,vi,one_viT,tk_map,List.length_map]
    refine hN3 _ ?_
    try clear hN3 N3
    refine AW.regionL envOk ?_
    simp-dsimp-implicitDefEqProofs (maxSteps:=800000) (disch:=omega) only[go_sem,undef,prsP,w64,vls,vi,one_viT,tk_map,List.length_map]
    refine⟨(k+1,some (m+1+3+6)),?_,by intro d cs hd;simp only[hC0,hk0,oH,upd,noH,List.map_append,List.map_cons,List.map_nil,List.nil_append,List.take_zero,vi]at hd hms ⊢;simp only[hms,List.map_cons,List.map_nil,List.nil_append,vi]at hd;grind,?_,?_⟩
    ·simp(disch:=omega) [wks,wkA,sl,oA,w64,ints,rows,cubes,prsP,vls,vi]<;>omega
    ·first|exact⟨⟨by first|omega|(simp only;omega)|(dsimp only;omega),by first|omega|(simp only;omega)|(dsimp only;omega)⟩,by simp,by simp;omega⟩|exact⟨by first|omega|(simp only;omega)|(dsimp only;omega),by simp,by simp;omega⟩
    ·first|omega|(simp only;omega)
   ·try simp only[cn]at h1
    refine AW.exit ?_
    simp only[thn,blk,if_true]
    refine hN1 _ ?_
    try clear hN1 N1
    have hke:k=us.length:=by omega
    first|refine AW.freezeO os.length 5 none (exG (pc os pw cj) q us) rfl rfl (fun _=>List.length_eq_zero_iff.1 (by rw[hGl,hC0,List.length_nil];omega)) ?_|(refine AW.freezeO os.length 5 (some id) (exG (pc os pw cj) q us) (by rw[hGl,←hke];rfl) (by rw[hGe,hke,List.take_length];rfl) (fun e=>by cases e) ?_)
    try simp-dsimp-implicitDefEqProofs (maxSteps:=800000) (disch:=omega) only[go_sem,undef]
    refine AW.sr envOk (fun N hN=> ?_)
    simp-dsimp-implicitDefEqProofs (maxSteps:=800000) (disch:=omega) only[go_sem,undef,prsP,w64,vls,vi,one_viT,tk_map,List.length_map]
    refine AC.pure (.of (hclo)) ?_
    try simp-dsimp-implicitDefEqProofs (maxSteps:=800000) (disch:=omega) only[go_sem,undef,prsP,w64,vls,vi,one_viT,tk_map,List.length_map]
    refine hN _ ?_
    try clear hN N
    refine AW.ret ?_
    simp-dsimp-implicitDefEqProofs (maxSteps:=800000) (disch:=omega) only[go_sem,undef]
    rfl
  ·skip
   simp-dsimp-implicitDefEqProofs (maxSteps:=800000) (disch:=omega) only[go_sem,undef]
   dsimp only[oA,oH]at hk hm h0 hid ⊢
   have hidm:=hid id rfl
   have htl:(us.take k).length=k:=by rw[List.length_take];omega
   have hclen:(C++(us.take k).map fun x=>pwV (pc os pw cj) x q).length=C.length+k:=by rw[List.length_append,List.length_map,htl]
   refine AW.sr envOk (fun N hN=> ?_)
   simp-dsimp-implicitDefEqProofs (maxSteps:=800000) (disch:=omega) only[go_sem,undef,prsP,w64,vls,vi,one_viT,tk_map,List.length_map]
   refine hN _ ?_
   try clear hN N
   refine AW.seq (fun N4 hN4=> ?_)
   refine AW.cond rfl (fun h2=> ?_) (fun h2=> ?_)
   ·try simp only[cn]at h2
    have hms:=map_step (f:=fun x=>pwV (pc os pw cj) x q) (show k<us.length by omega) rfl
    have hxT:=hu _ (mem_getD (show k<us.length by omega))
    have hpo:=impl_power_i h 0 hc _ hxT q hq.1 (by omega)
    rw[pwV_rep hq.1]at hpo
    refine AW.skip ?_
    simp only[thn,blk]
    refine hN4 _ ?_
    try clear hN4 N4
    refine AW.seq (fun N5 hN5=> ?_)
    refine AW.block ?_
    refine AW.sr envOk (fun N hN=> ?_)
    simp-dsimp-implicitDefEqProofs (maxSteps:=800000) (disch:=omega) only[go_sem,undef,prsP,w64,vls,vi,one_viT,tk_map,List.length_map]
    refine hN _ ?_
    try clear hN N
    refine AW.regionL envOk ?_
    simp-dsimp-implicitDefEqProofs (maxSteps:=800000) (disch:=omega) only[go_sem,undef,prsP,w64,vls,vi,one_viT,tk_map,List.length_map]
    refine AC.pure (.of (hpo)) ?_
    try simp-dsimp-implicitDefEqProofs (maxSteps:=800000) (disch:=omega) only[go_sem,undef,prsP,w64,vls,vi,one_viT,tk_map,List.length_map]
    refine hN5 _ ?_
    try clear hN5 N5
    refine AW.regionL envOk ?_
    simp-dsimp-implicitDefEqProofs (maxSteps:=800000) (disch:=omega) only[go_sem,undef,prsP,w64,vls,vi,one_viT,tk_map,List.length_map]
    refine⟨(k+1,some (m+1+3+6)),?_,by intro d cs hd;simp only[oH,hms,upd,noH,List.map_append,List.map_cons,List.map_nil,vi]at hd ⊢;grind,?_,?_⟩
    ·simp(disch:=omega) [wks,wkA,sl,oA,w64,ints,rows,cubes,prsP,vls,vi]<;>omega
    ·first|exact⟨⟨by first|omega|(simp only;omega)|(dsimp only;omega),by first|omega|(simp only;omega)|(dsimp only;omega)⟩,by simp,by simp;omega⟩|exact⟨by first|omega|(simp only;omega)|(dsimp only;omega),by simp,by simp;omega⟩
    ·first|omega|(simp only;omega)
   ·try simp only[cn]at h2
    refine AW.exit ?_
    simp only[thn,blk,if_true]
    refine hN1 _ ?_
    try clear hN1 N1
    have hke:k=us.length:=by omega
    first|refine AW.freezeO os.length 5 none (exG (pc os pw cj) q us) rfl rfl (fun _=>List.length_eq_zero_iff.1 (by rw[hGl,hC0,List.length_nil];omega)) ?_|(refine AW.freezeO os.length 5 (some id) (exG (pc os pw cj) q us) (by rw[hGl,←hke];rfl) (by rw[hGe,hke,List.take_length];rfl) (fun e=>by cases e) ?_)
    try simp-dsimp-implicitDefEqProofs (maxSteps:=800000) (disch:=omega) only[go_sem,undef]
    refine AW.sr envOk (fun N hN=> ?_)
    simp-dsimp-implicitDefEqProofs (maxSteps:=800000) (disch:=omega) only[go_sem,undef,prsP,w64,vls,vi,one_viT,tk_map,List.length_map]
    refine AC.pure (.of (hclo)) ?_
    try simp-dsimp-implicitDefEqProofs (maxSteps:=800000) (disch:=omega) only[go_sem,undef,prsP,w64,vls,vi,one_viT,tk_map,List.length_map]
    refine hN _ ?_
    try clear hN N
    refine AW.ret ?_
    simp-dsimp-implicitDefEqProofs (maxSteps:=800000) (disch:=omega) only[go_sem,undef]
    rfl
theorem impl_series_v (h:presOk os pw cj) (hc:Con (pc os pw cj) 0) (q:Int) (F:FuncId) (cs:List AV) (hF:∀u,ExP (pc os pw cj) u→ACp Tryz.prog F ([vls os.length u]++cs) (vls os.length (exN (pc os pw cj) q u))) (u0:List V) (hE0:ExP (pc os pw cj) u0) (hul:u0.length≤os.length):ACp Tryz.prog 77 [vls os.length u0,.f F cs] (vcs os.length (exK (pc os pw cj) q os.length u0)):=by
 have hn6:=h.1.1
 have hv:=h.val
 have hpr:=h.2.1
 have hp:∀d,d<(pc os pw cj).n→pr4 ((pc os pw cj).o d):=fun d hd=>hpr d hd
 have hn0:(pc os pw cj).n=os.length:=rfl
 obtain⟨R,hR⟩:∃R,exK (pc os pw cj) q os.length u0=R:=⟨_,rfl⟩
 rw[hR]
 refine ACp.introV envOk Tryz.func77 rfl (by kernel_rfl) Tryz.ntmps77 Tryz.results77 ((vcs_nr _ _)) (fun nx=> ?_)
 refine AW.sr envOk (fun N hN=> ?_)
 simp-dsimp-implicitDefEqProofs (maxSteps:=800000) (disch:=omega) only[go_sem,undef,w64,vls,vi]
 refine hN _ ?_
 try clear hN N
 refine AW.sr envOk (fun N hN=> ?_)
 simp-dsimp-implicitDefEqProofs (maxSteps:=800000) (disch:=omega) only[go_sem,undef,w64,vls,vi]
 refine hN _ ?_
 try clear hN N
 refine AW.block ?_
 refine AW.loopN (α:=Nat×List (List V)×List V×Nat) (fun x=>sl 30 [(1,.f F cs),(5,.h x.1 0 (x.2.1.length+1))]) (fun x=>upd noH x.1 (some (x.2.1.map (vls os.length)++[vls os.length x.2.2.1]))) (fun x m=>(nx≤x.1∧x.1<m∧x.2.1.length+x.2.2.2≤os.length∧x.2.2.1.length≤x.2.2.2)∧ExP (pc os pw cj) x.2.2.1∧x.2.1++exK (pc os pw cj) q x.2.2.2 x.2.2.1=R) (fun x=>x.2.2.2) ((nx+2,[],u0,os.length)) ?_ ?_ (by intro d cs hd;simp only[upd,noH,List.map_nil,List.nil_append,vls]at hd ⊢;grind) ?_
 ·exact⟨⟨by first|omega|(simp only;omega)|(dsimp only;omega),by first|omega|(simp only;omega)|(dsimp only;omega),by simp,by simp[hul]⟩,hE0,by simpa using hR⟩
 ·simp(disch:=omega) [wks,wkA,sl,prsP,ints,rows,cubes]
 ·skip
  rintro⟨id,K,u,f⟩ m ⟨⟨hid,hm,hKf,huf⟩,hE,hC⟩
  dsimp only at hid hm hKf huf hE hC ⊢
  have hnxt:=ExP.next hv hc hp hE (q:=q)
  have hul6:=hE.2.1.len
  rw[hn0]at hul6
  have hgl:(K.map (vls os.length)++[AV.v u.length (u.map (vi os.length))]).getD K.length .j=AV.v u.length (u.map (vi os.length)):=vc_last
  have hix:(((K.length+1:Nat):Int)-1).toNat=K.length:=by omega
  have hsm:=impl_sameRows_v os pw cj (by omega) (us:=exN (pc os pw cj) q u) (vs:=u) (by omega) (by omega) hnxt.1.1 hE.1
  simp-dsimp-implicitDefEqProofs (maxSteps:=800000) (disch:=omega) only[go_sem,undef]
  refine AW.block ?_
  refine AW.sr envOk (fun N hN=> ?_)
  simp-dsimp-implicitDefEqProofs (maxSteps:=800000) (disch:=omega) only[go_sem,undef,w64,vls,vi,hix,hgl]
  refine AC.pure (.of (hF u hE)) ?_
  try simp-dsimp-implicitDefEqProofs (maxSteps:=800000) (disch:=omega) only[go_sem,undef,w64,vls,vi]
  refine hN _ ?_
  try clear hN N
  refine AW.seq (fun N1 hN1=> ?_)
  refine AW.sr envOk (fun N hN=> ?_)
  simp-dsimp-implicitDefEqProofs (maxSteps:=800000) (disch:=omega) only[go_sem,undef,w64,vls,vi,hix,hgl]
  refine AC.pure (.of (hsm)) ?_
  try simp-dsimp-implicitDefEqProofs (maxSteps:=800000) (disch:=omega) only[go_sem,undef,w64,vls,vi]
  refine hN _ ?_
  try clear hN N
  refine AW.cond rfl (fun h1=> ?_) (fun h1=> ?_)
  ·try simp only[cn]at h1
   refine AW.sr envOk (fun N hN=> ?_)
   simp-dsimp-implicitDefEqProofs (maxSteps:=800000) (disch:=omega) only[go_sem,undef,w64,vls,vi]
   refine hN _ ?_
   try clear hN N
   refine AW.ret ?_
   simp-dsimp-implicitDefEqProofs (maxSteps:=800000) (disch:=omega) only[go_sem,undef]
   rw[exK_z (P:=pc os pw cj) (q:=q) (us:=u) (by rw[h1])]at hC
   rw[←hC]
   unfold vcs
   rw[show(K++[u]).length=K.length+1 from by simp,List.map_append]
   exact Vw.blk (upd_same _ _ _) (by simp)
  ·try simp only[cn]at h1
   have hlt:(exN (pc os pw cj) q u).length<u.length:=by
    have:=hnxt.2.1
    rcases Nat.lt_or_ge (exN (pc os pw cj) q u).length u.length with g|g
    ·exact g
    ·exact absurd (hnxt.2.2 (by omega)) h1
   obtain⟨f',rfl,he⟩:=exK_fix (P:=pc os pw cj) (q:=q) huf hlt
   refine AW.skip ?_
   simp only[thn,blk]
   refine hN1 _ ?_
   try clear hN1 N1
   refine AW.regionL envOk ?_
   simp-dsimp-implicitDefEqProofs (maxSteps:=800000) (disch:=omega) only[go_sem,undef,w64,vls,vi]
   refine⟨(m+9+8+3,K++[u],exN (pc os pw cj) q u,f'),?_,by intro d cs hd;simp only[upd,noH,List.map_append,List.map_cons,List.map_nil,vls]at hd ⊢;grind,?_,?_⟩
   ·simp(disch:=omega) [wks,wkA,sl,w64,ints,rows,cubes,w64,vls,vi]<;>omega
   ·refine⟨⟨by first|omega|(simp only;omega)|(dsimp only;omega),by first|omega|(simp only;omega)|(dsimp only;omega),(by first|omega|(simp;omega)),(by first|omega|(dsimp only;omega))⟩,hnxt.1,?_⟩
    rw[←hC,he]
    simp
   ·first|omega|(simp only;omega)
theorem impl_lowerExponent_ok (h:presOk os pw cj) (hc:Con (pc os pw cj) 0) (q:Int) (hq:0≤q∧q≤1000):ACp Tryz.prog 41 [prsP os pw cj,.i .i64 q] (vcs os.length (exK (pc os pw cj) q os.length (unL os.length))):=by
 have hn6:=h.1.1
 have hv:=h.val
 have hE0:ExP (pc os pw cj) (unL os.length):=ExP.first hv hc
 have hser:=impl_series_v os pw cj h hc q 79 [.p 0 [prsP os pw cj],.p 0 [.i .i64 q]] (fun u hu=>impl_lowerExponent_1_v os pw cj h hc q hq u (by have:=hu.2.1.len;have hn0:(pc os pw cj).n=os.length:=rfl;omega) hu.1) (unL os.length) hE0 (by rw[unL_len];omega)
 refine ACp.intro' envOk Tryz.func41 rfl (by kernel_rfl) Tryz.ntmps41 Tryz.results41 (vcs_nr _ _) (fun nx=> ?_)
 refine AW.sr envOk (fun N hN=> ?_)
 simp-dsimp-implicitDefEqProofs (maxSteps:=800000) (disch:=omega) only[go_sem,undef,prsP,w64]
 refine hN _ ?_
 try clear hN N
 refine AW.freezeQ 2 nx _ rfl ((upd_ne _ _ (by omega)).trans (upd_same _ _ _)) ?_
 simp-dsimp-implicitDefEqProofs (maxSteps:=800000) (disch:=omega) only[go_sem,undef]
 refine AW.freezeQ 3 (nx+1) _ rfl ((upd_ne _ _ (by omega)).trans (upd_same _ _ _)) ?_
 simp-dsimp-implicitDefEqProofs (maxSteps:=800000) (disch:=omega) only[go_sem,undef]
 refine AW.sr envOk (fun N hN=> ?_)
 simp-dsimp-implicitDefEqProofs (maxSteps:=800000) (disch:=omega) only[go_sem,undef,prsP,w64]
 refine AC.pure (.of (impl_whole_v os pw cj (by omega))) ?_
 try simp-dsimp-implicitDefEqProofs (maxSteps:=800000) (disch:=omega) only[go_sem,undef,prsP,w64]
 refine AC.pure (.of (hser)) ?_
 try simp-dsimp-implicitDefEqProofs (maxSteps:=800000) (disch:=omega) only[go_sem,undef,prsP,w64]
 refine hN _ ?_
 try clear hN N
 refine AW.ret ?_
 simp-dsimp-implicitDefEqProofs (maxSteps:=800000) (disch:=omega) only[go_sem,undef]
 skip
end
end Go.Proofs.YtnlfbimjcabgiaaGreat
