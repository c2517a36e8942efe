import Derived.Test.YteoeedlcpalgbaaDoorZ34
set_option linter.unusedVariables false
set_option linter.unusedSimpArgs false
namespace Go.Proofs.YteoeedlcpalgbaaDoor
open Nat (reduceAdd reduceSub reduceGT reduceEqDiff reduceMul)
def nameIs (s:ByteArray) (k:Nat):Prop:=(trow k).2.1.toList=s.toList
noncomputable def plc (s:ByteArray):Option Nat:=(List.range 82).find? fun k=>tf (nameIs s k)
noncomputable def plA (s:ByteArray):Int:=match plc s with|some k=>(trow k).1|none=>0
noncomputable def plB (s:ByteArray):Int:=match plc s with|some k=>num k|none=>0
noncomputable def plE (s:ByteArray):Int:=match plc s with|some k=>0|none=>4
noncomputable def plcR (s:ByteArray):AV:= .t [.i .i64 (plA s),.i .i64 (plB s),.i .i64 (plE s)]
theorem t3_nr (a b c:Int):NR (.t [.i .i64 a,.i .i64 b,.i .i64 c]):= .t _ fun k y hk=>by
  match k,hk with
  |0,hk=>cases hk;exact .i _ _
  |1,hk=>cases hk;exact .i _ _
  |2,hk=>cases hk;exact .i _ _
theorem plcR_nr (s:ByteArray):NR (plcR s):=t3_nr _ _ _
theorem plc_some {s:ByteArray} {k:Nat} (hk:k<82) (h:nameIs s k) (hn:∀j,j<k→¬nameIs s j):plcR s= .t [.i .i64 (trow k).1,.i .i64 (num k),.i .i64 0]:=by
  have:plc s=some k:=by
    unfold plc
    rw[List.find?_range_eq_some]
    exact⟨tf_t h,List.mem_range.2 hk,fun j hj=>by rw[tf_f (hn j hj)];rfl⟩
  rw[plcR,plA,plB,plE,this]
theorem plc_none {s:ByteArray} (hn:∀j,j<82→¬nameIs s j):plcR s= .t [.i .i64 0,.i .i64 0,.i .i64 4]:=by
  have:plc s=none:=by
    unfold plc
    rw[List.find?_eq_none]
    intro j hj
    rw[tf_f (hn j (List.mem_range.1 hj))];decide
  rw[plcR,plA,plB,plE,this]
theorem nx_none {s:ByteArray} {k:Nat} (hn:∀j,j<k→¬nameIs s j) (h:¬nameIs s k):∀j,j<k+1→¬nameIs s j:=by
  intro j hj
  by_cases e:j=k
  · subst e;exact h
  · exact hn j (by omega)
noncomputable def cur:Nat→Int
  |0=>0
  |k+1=>num k+1
theorem tbl_sorted {k:Nat} (h:k+1<82):(trow k).1≤(trow (k+1)).1:=by
  have h1:((List.range 81).map fun k=>decide ((trow k).1≤(trow (k+1)).1))=List.replicate 81 true:=by kernel_rfl
  exact of_decide_eq_true (all_of h1 (List.mem_range.2 (by omega)))
theorem num_gt {k:Nat} (h:(trow (k+1)).1>(trow k).1):num (k+1)=0:=by rw[num,if_neg (by omega)]
theorem num_eq {k:Nat} (hk:k+1<82) (h:¬(trow (k+1)).1>(trow k).1):num (k+1)=num k+1:=by
  have:=tbl_sorted hk
  rw[num,if_pos (by omega)]
set_option maxHeartbeats 2000000 in theorem spec_PlaceOfName_ok (s:ByteArray):ACp Tryd.prog 13 [.s s] (plcR s):=by
 refine ACp.intro' envOk Tryd.func13 rfl (by kernel_rfl) Tryd.ntmps13 Tryd.results13 (plcR_nr s) (fun nx cX=> ?_)
 refine AW.sr envOk (fun N hN=> ?_)
 simp-dsimp-implicitDefEqProofs (disch:=omega) only[go_sem,undef,tblV,w64]
 refine hN _ ?_
 try clear hN N
 refine AW.sr envOk (fun N hN=> ?_)
 simp-dsimp-implicitDefEqProofs (disch:=omega) only[go_sem,undef,tblV,w64]
 refine AC.pure (.of (spec_l30Table_ok)) ?_
 try simp-dsimp-implicitDefEqProofs (disch:=omega) only[go_sem,undef,tblV,w64]
 refine hN _ ?_
 try clear hN N
 refine AW.sr envOk (fun N hN=> ?_)
 simp-dsimp-implicitDefEqProofs (disch:=omega) only[go_sem,undef,tblV,w64]
 refine hN _ ?_
 try clear hN N
 refine AW.seq (fun N1 hN1=> ?_)
 refine AW.sr envOk (fun N hN=> ?_)
 simp-dsimp-implicitDefEqProofs (disch:=omega) only[go_sem,undef,tblV,w64]
 refine hN _ ?_
 try clear hN N
 refine AW.block ?_
 refine AW.loopN (α:=Nat) (fun x=>sl 46 [(0,.s s),(5,.v 82 tcells),(6,.i .i64 (cur x)),(7,.i .i64 x)]) (fun _=>noH) (fun x m=>x≤82∧∀j,j<x→¬nameIs s j) (fun x=>82-x) (0) ?_ ?_ (fun _ _ h=>h) ?_
 ·exact⟨by omega,by intro j hj;omega⟩
 ·simp(disch:=omega) [wks,wkA,sl,cur,tblV]
 ·skip
  rintro k m ⟨hk,hn⟩
  simp-dsimp-implicitDefEqProofs (disch:=omega) only[go_sem,undef]
  refine AW.seq (fun N2 hN2=> ?_)
  refine AW.sr envOk (fun N hN=> ?_)
  simp-dsimp-implicitDefEqProofs (disch:=omega) only[go_sem,undef,tblV,w64]
  refine hN _ ?_
  try clear hN N
  refine AW.cond rfl (fun h1=> ?_) (fun h1=> ?_)
  ·try simp only[cn]at h1
   have hk2:k<82:=by omega
   have e0:=tcells_at (i:=0) hk2 (by omega)
   have e1:=tcells_at (i:=1) hk2 (by omega)
   simp only[Nat.add_zero,cellsR,List.getD_cons_zero,List.getD_cons_succ]at e0 e1
   have el0:k*3<tcells.length:=by rw[tcells_len];omega
   have el1:k*3+1<tcells.length:=by rw[tcells_len];omega
   refine AW.skip ?_
   simp only[thn,blk]
   refine hN2 _ ?_
   try clear hN2 N2
   refine AW.seq (fun N3 hN3=> ?_)
   refine AW.block ?_
   refine AW.seq (fun N4 hN4=> ?_)
   refine AW.seq (fun N hN=> ?_)
   refine AW.drawL envOk (by kernel_rfl) 16 (by kernel_rfl) ?_
   simp-dsimp-implicitDefEqProofs (disch:=omega) only[hr_nil,hr_one,hr_if,List.take_succ_cons,List.take_zero,List.drop_succ_cons,List.drop_zero,List.take_nil,List.drop_nil,go_sem,undef,tblV,w64]
   refine gopB.mk' (fun h2=> ?_) (fun h2=> ?_)
   ·try simp only[cn]at h2
    obtain⟨j,rfl⟩:∃j,k=j+1:=⟨k-1,by omega⟩
    have ew:(((j+1:Nat):Int)-1).toNat=j:=by omega
    have e2:=tcells_at (k:=j) (i:=0) (by omega) (by omega)
    simp only[Nat.add_zero,cellsR,List.getD_cons_zero]at e2
    have el2:j*3<tcells.length:=by rw[tcells_len];omega
    have hnum:=num_le j
    simp-dsimp-implicitDefEqProofs (disch:=omega) only[go_sem,undef,w64,ew,e0,e2,el0,el2,cur]
    try simp-dsimp-implicitDefEqProofs (disch:=omega) only[go_sem,undef,tblV,w64]
    refine hN _ ?_
    try clear hN N
    refine AW.cond rfl (fun h3=> ?_) (fun h3=> ?_)
    ·try simp only[cn]at h3
     have hnk:=num_gt h3
     refine AW.regionL envOk ?_
     simp-dsimp-implicitDefEqProofs (disch:=omega) only[go_sem,undef,tblV,w64]
     refine hN4 _ ?_
     try clear hN4 N4
     refine AW.seq (fun N5 hN5=> ?_)
     refine AW.sr envOk (fun N hN=> ?_)
     simp-dsimp-implicitDefEqProofs (disch:=omega) only[go_sem,undef,tblV,w64,e0,e1,el0,el1]
     refine hN _ ?_
     try clear hN N
     refine AW.cond rfl (fun h4=> ?_) (fun h4=> ?_)
     ·try simp only[cn]at h4
      refine AW.sr envOk (fun N hN=> ?_)
      simp-dsimp-implicitDefEqProofs (disch:=omega) only[go_sem,undef,tblV,w64,e0,e1,el0,el1]
      refine hN _ ?_
      try clear hN N
      refine AW.ret ?_
      simp-dsimp-implicitDefEqProofs (disch:=omega) only[go_sem,undef]
      rw[plc_some hk2 h4 hn,hnk]
     ·try simp only[cn]at h4
      refine AW.skip ?_
      simp only[thn,blk]
      refine hN5 _ ?_
      try clear hN5 N5
      refine AW.regionL envOk ?_
      simp-dsimp-implicitDefEqProofs (disch:=omega) only[go_sem,undef,tblV,w64]
      refine hN3 _ ?_
      try clear hN3 N3
      refine AW.regionL envOk ?_
      simp-dsimp-implicitDefEqProofs (disch:=omega) only[go_sem,undef,tblV,w64]
      refine⟨j+1+1,?_,fun _ _ h=>h,?_,?_⟩
      ·simp(disch:=omega) [wks,wkA,sl,cur,w64,hnk]
      ·exact⟨by omega,nx_none hn h4⟩
      ·first|omega|(simp only;omega)
    ·try simp only[cn]at h3
     have hnk:=num_eq (k:=j) (by omega) (by omega)
     refine AW.skip ?_
     simp only[thn,blk]
     refine hN4 _ ?_
     try clear hN4 N4
     refine AW.seq (fun N6 hN6=> ?_)
     refine AW.sr envOk (fun N hN=> ?_)
     simp-dsimp-implicitDefEqProofs (disch:=omega) only[go_sem,undef,tblV,w64,e0,e1,el0,el1]
     refine hN _ ?_
     try clear hN N
     refine AW.cond rfl (fun h5=> ?_) (fun h5=> ?_)
     ·try simp only[cn]at h5
      refine AW.sr envOk (fun N hN=> ?_)
      simp-dsimp-implicitDefEqProofs (disch:=omega) only[go_sem,undef,tblV,w64,e0,e1,el0,el1]
      refine hN _ ?_
      try clear hN N
      refine AW.ret ?_
      simp-dsimp-implicitDefEqProofs (disch:=omega) only[go_sem,undef]
      rw[plc_some hk2 h5 hn,hnk]
     ·try simp only[cn]at h5
      refine AW.skip ?_
      simp only[thn,blk]
      refine hN6 _ ?_
      try clear hN6 N6
      refine AW.regionL envOk ?_
      simp-dsimp-implicitDefEqProofs (disch:=omega) only[go_sem,undef,tblV,w64]
      refine hN3 _ ?_
      try clear hN3 N3
      refine AW.regionL envOk ?_
      simp-dsimp-implicitDefEqProofs (disch:=omega) only[go_sem,undef,tblV,w64]
      refine⟨j+1+1,?_,fun _ _ h=>h,?_,?_⟩
      ·simp(disch:=omega) [wks,wkA,sl,cur,w64,hnk]
      ·exact⟨by omega,nx_none hn h5⟩
      ·first|omega|(simp only;omega)
   ·try simp only[cn]at h2
    obtain rfl:k=0:=by simp at h2;omega
    have hnk:num 0=0:=rfl
    try simp-dsimp-implicitDefEqProofs (disch:=omega) only[go_sem,undef,tblV,w64]
    refine hN _ ?_
    try clear hN N
    refine AW.condF rfl ?_
    refine AW.skip ?_
    simp only[thn,blk]
    refine hN4 _ ?_
    try clear hN4 N4
    refine AW.seq (fun N7 hN7=> ?_)
    refine AW.sr envOk (fun N hN=> ?_)
    simp-dsimp-implicitDefEqProofs (disch:=omega) only[go_sem,undef,tblV,w64,e0,e1,el0,el1]
    refine hN _ ?_
    try clear hN N
    refine AW.cond rfl (fun h6=> ?_) (fun h6=> ?_)
    ·try simp only[cn]at h6
     refine AW.sr envOk (fun N hN=> ?_)
     simp-dsimp-implicitDefEqProofs (disch:=omega) only[go_sem,undef,tblV,w64,e0,e1,el0,el1]
     refine hN _ ?_
     try clear hN N
     refine AW.ret ?_
     simp-dsimp-implicitDefEqProofs (disch:=omega) only[go_sem,undef]
     rw[plc_some hk2 h6 hn];rfl
    ·try simp only[cn]at h6
     refine AW.skip ?_
     simp only[thn,blk]
     refine hN7 _ ?_
     try clear hN7 N7
     refine AW.regionL envOk ?_
     simp-dsimp-implicitDefEqProofs (disch:=omega) only[go_sem,undef,tblV,w64]
     refine hN3 _ ?_
     try clear hN3 N3
     refine AW.regionL envOk ?_
     simp-dsimp-implicitDefEqProofs (disch:=omega) only[go_sem,undef,tblV,w64]
     refine⟨0+1,?_,fun _ _ h=>h,?_,?_⟩
     ·simp(disch:=omega) [wks,wkA,sl,cur,w64,hnk]
     ·exact⟨by omega,nx_none hn h6⟩
     ·first|omega|(simp only;omega)
  ·try simp only[cn]at h1
   obtain rfl:k=82:=by omega
   refine AW.exit ?_
   simp only[thn,blk,if_true]
   refine hN1 _ ?_
   try clear hN1 N1
   refine AW.sr envOk (fun N hN=> ?_)
   simp-dsimp-implicitDefEqProofs (disch:=omega) only[go_sem,undef,tblV,w64]
   refine hN _ ?_
   try clear hN N
   refine AW.ret ?_
   simp-dsimp-implicitDefEqProofs (disch:=omega) only[go_sem,undef]
   rw[plc_none hn]
set_option maxHeartbeats 2000000 in theorem impl_PlaceOfName_ok (s:ByteArray):ACp Tryd.prog 14 [.s s] (plcR s):=by
 refine ACp.intro' envOk Tryd.func14 rfl (by kernel_rfl) Tryd.ntmps14 Tryd.results14 (plcR_nr s) (fun nx cX=> ?_)
 refine AW.sr envOk (fun N hN=> ?_)
 simp-dsimp-implicitDefEqProofs (disch:=omega) only[go_sem,undef,libV,w64]
 refine hN _ ?_
 try clear hN N
 refine AW.seq (fun N1 hN1=> ?_)
 refine AW.sr envOk (fun N hN=> ?_)
 simp-dsimp-implicitDefEqProofs (disch:=omega) only[go_sem,undef,libV,w64]
 refine AC.pure (.of (impl_libraryGroups_ok)) ?_
 try simp-dsimp-implicitDefEqProofs (disch:=omega) only[go_sem,undef,libV,w64]
 refine hN _ ?_
 try clear hN N
 refine AW.block ?_
 refine AW.loopN (α:=Nat) (fun x=>sl 22 [(0,.s s),(7,.v 82 (gcells 82)),(8,.i .i64 82),(9,.i .i64 x)]) (fun _=>noH) (fun x m=>x≤82∧∀j,j<x→¬nameIs s j) (fun x=>82-x) (0) ?_ ?_ (fun _ _ h=>h) ?_
 ·exact⟨by omega,by intro j hj;omega⟩
 ·simp(disch:=omega) [wks,wkA,sl,w64,ints,rows,cubes,libV,w64]<;>omega
 ·skip
  rintro k m ⟨hk,hn⟩
  simp-dsimp-implicitDefEqProofs (disch:=omega) only[go_sem,undef]
  refine AW.sr envOk (fun N hN=> ?_)
  simp-dsimp-implicitDefEqProofs (disch:=omega) only[go_sem,undef,libV,w64]
  refine hN _ ?_
  try clear hN N
  refine AW.seq (fun N2 hN2=> ?_)
  refine AW.cond rfl (fun h1=> ?_) (fun h1=> ?_)
  ·try simp only[cn]at h1
   have hk2:k<82:=by omega
   have ep:=gcells_part hk2
   have eq:k*4+4≤(gcells 82).length:=by rw[gcells_len];omega
   refine AW.skip ?_
   simp only[thn,blk]
   refine hN2 _ ?_
   try clear hN2 N2
   refine AW.seq (fun N3 hN3=> ?_)
   refine AW.block ?_
   refine AW.sr envOk (fun N hN=> ?_)
   simp-dsimp-implicitDefEqProofs (disch:=omega) only[go_sem,undef,libV,w64,ep,gcell,eq,arr4,one4t]
   refine hN _ ?_
   try clear hN N
   refine AW.sr envOk (fun N hN=> ?_)
   simp-dsimp-implicitDefEqProofs (disch:=omega) only[go_sem,undef,libV,w64]
   refine hN _ ?_
   try clear hN N
   refine AW.cond rfl (fun h2=> ?_) (fun h2=> ?_)
   ·try simp only[cn]at h2
    refine AW.seq (fun N hN=> ?_)
    refine AW.drawL envOk (by kernel_rfl) 7 (by kernel_rfl) ?_
    simp-dsimp-implicitDefEqProofs (disch:=omega) only[hr_nil,hr_one,hr_if,List.take_succ_cons,List.take_zero,List.drop_succ_cons,List.drop_zero,List.take_nil,List.drop_nil,go_sem,undef,libV,w64]
    refine hN _ ?_
    try clear hN N
    refine AW.ret ?_
    simp-dsimp-implicitDefEqProofs (disch:=omega) only[go_sem,undef]
    rw[plc_some hk2 h2 hn]
   ·try simp only[cn]at h2
    refine AW.skip ?_
    simp only[thn,blk]
    refine hN3 _ ?_
    try clear hN3 N3
    refine AW.regionL envOk ?_
    simp-dsimp-implicitDefEqProofs (disch:=omega) only[go_sem,undef,libV,w64]
    refine⟨k+1,?_,le_no,?_,?_⟩
    ·simp(disch:=omega) [wks,wkA,sl,w64,ints,rows,cubes,libV,w64]<;>omega
    ·exact⟨by omega,nx_none hn h2⟩
    ·first|omega|(simp only;omega)
  ·try simp only[cn]at h1
   obtain rfl:k=82:=by omega
   refine AW.exit ?_
   simp only[thn,blk,if_true]
   refine hN1 _ ?_
   try clear hN1 N1
   refine AW.sr envOk (fun N hN=> ?_)
   simp-dsimp-implicitDefEqProofs (disch:=omega) only[go_sem,undef,libV,w64]
   refine hN _ ?_
   try clear hN N
   refine AW.ret ?_
   simp-dsimp-implicitDefEqProofs (disch:=omega) only[go_sem,undef]
   rw[plc_none hn]
end Go.Proofs.YteoeedlcpalgbaaDoor
