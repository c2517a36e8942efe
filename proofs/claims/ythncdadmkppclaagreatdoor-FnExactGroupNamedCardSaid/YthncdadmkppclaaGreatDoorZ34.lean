import Derived.Test.YthncdadmkppclaaGreatDoorZ33
set_option linter.unusedVariables false
set_option linter.unusedSimpArgs false
namespace Go.Proofs.YthncdadmkppclaaGreatDoor
open Nat (reduceAdd reduceSub reduceGT reduceEqDiff reduceMul)
noncomputable def fdE (o i:Int):Int:=if gerr o≠0 then gerr o else if 0≤i∧i≤(gsel o).length-1 then 0 else 2
noncomputable def fdK (o i:Int):Nat:=(gsel o).getD i.toNat 0
noncomputable def fA (o i:Int):Int:=if fdE o i=0 then (trow (fdK o i)).1 else 0
noncomputable def fB (o i:Int):Int:=if fdE o i=0 then num (fdK o i)else 0
noncomputable def fN (o i:Int):ByteArray:=if fdE o i=0 then (trow (fdK o i)).2.1 else ⟨#[]⟩
noncomputable def fT (o i:Int):ByteArray:=if fdE o i=0 then (trow (fdK o i)).2.2 else ⟨#[]⟩
noncomputable def fdS (o i:Int):List AV:=[.i .i64 (fA o i),.s (fN o i),.s (fT o i)]
noncomputable def fdI (o i:Int):List AV:=[.i .i64 (fA o i),.i .i64 (fB o i),.s (fN o i),.s (fT o i)]
theorem gerr_ok {o:Int} (h:gerr o=0):gsel o=sel o 82∧1≤o∧o≤31:=by
  unfold gerr at h
  split at h
  · rename_i h1;exact⟨by rw[gsel,if_pos h1],h1⟩
  · cases h
theorem gsel_get {o:Int} {k:Nat} (h:k<(gsel o).length):(gsel o)[k]? =some (fdK o k):=by
  rw[fdK,List.getD_eq_getElem?_getD,Int.toNat_natCast,List.getElem?_eq_getElem h];rfl
noncomputable def sflat (o:Int):List AV:=(gsel o).flatMap fun k=>cellsR (trow k)
theorem gsel_rowsV {o:Int} (h:gerr o=0):rowsV o= .v (gsel o).length (sflat o):=by
  unfold sflat
  rw[(gerr_ok h).1];rfl
theorem spart {o:Int} {k:Nat} (h:k<(gsel o).length):(((sflat o).drop (k*3)).take 3)=[.i .i64 (trow (fdK o k)).1,.s (trow (fdK o k)).2.1,.s (trow (fdK o k)).2.2]:=
  fm_part (f:=fun k=>cellsR (trow k)) (c:=3) (fun _=>rfl) (gsel_get h)
theorem slen (o:Int):(sflat o).length=(gsel o).length*3:=fm_len (f:=fun k=>cellsR (trow k)) (c:=3) (fun _=>rfl) _
theorem gsel_le (o:Int):(gsel o).length≤82:=by
  unfold gsel;split
  · exact sel_le _ _
  · simp
theorem fdS_nr (o i:Int):NR (.g (fdS o i)):= .g _ fun k x h=>by
  have:=List.mem_of_getElem? h
  simp only[fdS,List.mem_cons,List.not_mem_nil,or_false]at this
  rcases this with rfl|rfl|rfl
  · exact .i _ _
  · exact .s _
  · exact .s _
theorem fd_ne {o i e:Int} (h:fdE o i=e) (he:e≠0):fdS o i=[.i .i64 0,.s ⟨#[]⟩,.s ⟨#[]⟩]∧fdI o i=[.i .i64 0,.i .i64 0,.s ⟨#[]⟩,.s ⟨#[]⟩]:=by
  have h0:¬fdE o i=0:=by rw[h];exact he
  exact⟨by rw[fdS,fA,fN,fT,if_neg h0,if_neg h0,if_neg h0],by rw[fdI,fA,fB,fN,fT,if_neg h0,if_neg h0,if_neg h0,if_neg h0]⟩
theorem fd_bad {o i:Int} (h:gerr o≠0):fdE o i=gerr o∧fdS o i=[.i .i64 0,.s ⟨#[]⟩,.s ⟨#[]⟩]∧fdI o i=[.i .i64 0,.i .i64 0,.s ⟨#[]⟩,.s ⟨#[]⟩]:=by
  have e:fdE o i=gerr o:=by rw[fdE,if_pos h]
  exact⟨e,fd_ne e h⟩
theorem fd_out {o i:Int} (h:gerr o=0) (hi:¬(0≤i∧i≤(gsel o).length-1)):fdE o i=2∧fdS o i=[.i .i64 0,.s ⟨#[]⟩,.s ⟨#[]⟩]∧fdI o i=[.i .i64 0,.i .i64 0,.s ⟨#[]⟩,.s ⟨#[]⟩]:=by
  have e:fdE o i=2:=by rw[fdE,if_neg (by simp[h]),if_neg hi]
  exact⟨e,fd_ne e (by decide)⟩
theorem fd_in {o i:Int} (h:gerr o=0) (hi:0≤i∧i≤(gsel o).length-1):fdE o i=0∧fdS o i=cellsR (trow (fdK o i))∧fdI o i=gcell (fdK o i):=by
  have e:fdE o i=0:=by rw[fdE,if_neg (by simp[h]),if_pos hi]
  exact⟨e,by rw[fdS,fA,fN,fT,if_pos e,if_pos e,if_pos e];rfl,by rw[fdI,fA,fB,fN,fT,if_pos e,if_pos e,if_pos e,if_pos e];rfl⟩
theorem sfit {o:Int} {k:Nat} (h:k<(gsel o).length):(k*3+3≤(sflat o).length)=True:=eq_true (by rw[slen];omega)
theorem spec_l30Find_ok (o i:Int):ACp Tryz.prog 12 [.i .i64 o,.i .i64 i] (.t [.g (fdS o i),.i .i64 (fdE o i)]):=by
 have hgl:=gsel_le o
 refine ACp.intro' envOk Tryz.func12 rfl (by kernel_rfl) Tryz.ntmps12 Tryz.results12 (t2_nr (fdS_nr _ _) _) (fun nx cX=> ?_)
 refine AW.sr envOk (fun N hN=> ?_)
 simp-dsimp-implicitDefEqProofs (disch:=omega) only[go_sem,undef,cgR,w64,spart,sfit,Int.toNat_natCast,arr3,one3t]
 refine hN _ ?_
 try clear hN N
 refine AW.sr envOk (fun N hN=> ?_)
 simp-dsimp-implicitDefEqProofs (disch:=omega) only[go_sem,undef,cgR,w64,spart,sfit,Int.toNat_natCast,arr3,one3t]
 refine AC.pure (.of (spec_CountGroups_ok o)) ?_
 try simp-dsimp-implicitDefEqProofs (disch:=omega) only[go_sem,undef,cgR,w64,spart,sfit,Int.toNat_natCast,arr3,one3t]
 refine hN _ ?_
 try clear hN N
 refine AW.seq (fun N1 hN1=> ?_)
 refine AW.sr envOk (fun N hN=> ?_)
 simp-dsimp-implicitDefEqProofs (disch:=omega) only[go_sem,undef,cgR,w64,spart,sfit,Int.toNat_natCast,arr3,one3t]
 refine hN _ ?_
 try clear hN N
 refine AW.cond rfl (fun h1=> ?_) (fun h1=> ?_)
 ·try simp only[cn]at h1
  obtain⟨f1,f2,f3⟩:=fd_bad (i:=i) h1
  refine AW.sr envOk (fun N hN=> ?_)
  simp-dsimp-implicitDefEqProofs (disch:=omega) only[go_sem,undef,cgR,w64,spart,sfit,Int.toNat_natCast,arr3,one3t]
  refine hN _ ?_
  try clear hN N
  refine AW.ret ?_
  simp-dsimp-implicitDefEqProofs (disch:=omega) only[go_sem,undef]
  rw[f1,f2]
 ·try simp only[cn]at h1
  have hr3:=spec_l30Rows_ok o
  rw[gsel_rowsV h1]at hr3
  refine AW.skip ?_
  simp only[thn,blk]
  refine hN1 _ ?_
  try clear hN1 N1
  refine AW.seq (fun N2 hN2=> ?_)
  refine AW.sr envOk (fun N hN=> ?_)
  simp-dsimp-implicitDefEqProofs (disch:=omega) only[go_sem,undef,cgR,w64,spart,sfit,Int.toNat_natCast,arr3,one3t]
  refine AC.pure (.of (spec_l01In_ok i 0 ((gsel o).length-1))) ?_
  try simp-dsimp-implicitDefEqProofs (disch:=omega) only[go_sem,undef,cgR,w64,spart,sfit,Int.toNat_natCast,arr3,one3t]
  refine hN _ ?_
  try clear hN N
  refine AW.cond rfl (fun h2=> ?_) (fun h2=> ?_)
  ·try simp only[cn]at h2
   obtain⟨f1,f2,f3⟩:=fd_out h1 h2
   refine AW.sr envOk (fun N hN=> ?_)
   simp-dsimp-implicitDefEqProofs (disch:=omega) only[go_sem,undef,cgR,w64,spart,sfit,Int.toNat_natCast,arr3,one3t]
   refine hN _ ?_
   try clear hN N
   refine AW.ret ?_
   simp-dsimp-implicitDefEqProofs (disch:=omega) only[go_sem,undef]
   rw[f1,f2]
  ·try simp only[cn]at h2
   obtain⟨f1,f2,f3⟩:=fd_in h1 h2
   obtain⟨k,rfl⟩:∃k:Nat,i=k:=⟨i.toNat,by omega⟩
   have hk:k<(gsel o).length:=by omega
   have sp:=spart hk
   have sl0:=slen o
   refine AW.skip ?_
   simp only[thn,blk]
   refine hN2 _ ?_
   try clear hN2 N2
   refine AW.sr envOk (fun N hN=> ?_)
   simp-dsimp-implicitDefEqProofs (disch:=omega) only[go_sem,undef,cgR,w64,spart,sfit,Int.toNat_natCast,arr3,one3t]
   refine AC.pure (.of (hr3)) ?_
   try simp-dsimp-implicitDefEqProofs (disch:=omega) only[go_sem,undef,cgR,w64,spart,sfit,Int.toNat_natCast,arr3,one3t]
   refine hN _ ?_
   try clear hN N
   refine AW.ret ?_
   simp-dsimp-implicitDefEqProofs (disch:=omega) only[go_sem,undef]
   rw[f1,f2];rfl
def nameIs (s:ByteArray) (k:Nat):Prop:=(trow k).2.1.toList=s.toList
noncomputable def plc (s:ByteArray):Option Nat:=(List.range 82).find? fun k=>tf (nameIs s k)
noncomputable def plA (s:ByteArray):Int:=match plc s with|some k=>(trow k).1|none=>0
noncomputable def plB (s:ByteArray):Int:=match plc s with|some k=>num k|none=>0
noncomputable def plE (s:ByteArray):Int:=match plc s with|some k=>0|none=>4
noncomputable def plcR (s:ByteArray):AV:= .t [.i .i64 (plA s),.i .i64 (plB s),.i .i64 (plE s)]
theorem t3_nr (a b c:Int):NR (.t [.i .i64 a,.i .i64 b,.i .i64 c]):= .t _ fun k y hk=>by
  match k,hk with
  |0,hk=>cases hk;exact .i _ _
  |1,hk=>cases hk;exact .i _ _
  |2,hk=>cases hk;exact .i _ _
theorem plcR_nr (s:ByteArray):NR (plcR s):=t3_nr _ _ _
theorem plc_some {s:ByteArray} {k:Nat} (hk:k<82) (h:nameIs s k) (hn:∀j,j<k→¬nameIs s j):plcR s= .t [.i .i64 (trow k).1,.i .i64 (num k),.i .i64 0]:=by
  have:plc s=some k:=by
    unfold plc
    rw[List.find?_range_eq_some]
    exact⟨tf_t h,List.mem_range.2 hk,fun j hj=>by rw[tf_f (hn j hj)];rfl⟩
  rw[plcR,plA,plB,plE,this]
theorem plc_none {s:ByteArray} (hn:∀j,j<82→¬nameIs s j):plcR s= .t [.i .i64 0,.i .i64 0,.i .i64 4]:=by
  have:plc s=none:=by
    unfold plc
    rw[List.find?_eq_none]
    intro j hj
    rw[tf_f (hn j (List.mem_range.1 hj))];decide
  rw[plcR,plA,plB,plE,this]
theorem nx_none {s:ByteArray} {k:Nat} (hn:∀j,j<k→¬nameIs s j) (h:¬nameIs s k):∀j,j<k+1→¬nameIs s j:=by
  intro j hj
  by_cases e:j=k
  · subst e;exact h
  · exact hn j (by omega)
noncomputable def cur:Nat→Int
  |0=>0
  |k+1=>num k+1
theorem tbl_sorted {k:Nat} (h:k+1<82):(trow k).1≤(trow (k+1)).1:=by
  have h1:((List.range 81).map fun k=>decide ((trow k).1≤(trow (k+1)).1))=List.replicate 81 true:=by kernel_rfl
  exact of_decide_eq_true (all_of h1 (List.mem_range.2 (by omega)))
theorem num_gt {k:Nat} (h:(trow (k+1)).1>(trow k).1):num (k+1)=0:=by rw[num,if_neg (by omega)]
theorem num_eq {k:Nat} (hk:k+1<82) (h:¬(trow (k+1)).1>(trow k).1):num (k+1)=num k+1:=by
  have:=tbl_sorted hk
  rw[num,if_pos (by omega)]
set_option maxHeartbeats 2000000 in theorem spec_PlaceOfName_ok (s:ByteArray):ACp Tryz.prog 25 [.s s] (plcR s):=by
 refine ACp.intro' envOk Tryz.func25 rfl (by kernel_rfl) Tryz.ntmps25 Tryz.results25 (plcR_nr s) (fun nx cX=> ?_)
 refine AW.sr envOk (fun N hN=> ?_)
 simp-dsimp-implicitDefEqProofs (disch:=omega) only[go_sem,undef,tblV,w64]
 refine hN _ ?_
 try clear hN N
 refine AW.sr envOk (fun N hN=> ?_)
 simp-dsimp-implicitDefEqProofs (disch:=omega) only[go_sem,undef,tblV,w64]
 refine AC.pure (.of (spec_l30Table_ok)) ?_
 try simp-dsimp-implicitDefEqProofs (disch:=omega) only[go_sem,undef,tblV,w64]
 refine hN _ ?_
 try clear hN N
 refine AW.sr envOk (fun N hN=> ?_)
 simp-dsimp-implicitDefEqProofs (disch:=omega) only[go_sem,undef,tblV,w64]
 refine hN _ ?_
 try clear hN N
 refine AW.seq (fun N1 hN1=> ?_)
 refine AW.sr envOk (fun N hN=> ?_)
 simp-dsimp-implicitDefEqProofs (disch:=omega) only[go_sem,undef,tblV,w64]
 refine hN _ ?_
 try clear hN N
 refine AW.block ?_
 refine AW.loopN (α:=Nat) (fun x=>sl 46 [(0,.s s),(5,.v 82 tcells),(6,.i .i64 (cur x)),(7,.i .i64 x)]) (fun _=>noH) (fun x m=>x≤82∧∀j,j<x→¬nameIs s j) (fun x=>82-x) (0) ?_ ?_ (fun _ _ h=>h) ?_
 ·exact⟨by omega,by intro j hj;omega⟩
 ·simp(disch:=omega) [wks,wkA,sl,cur,tblV]
 ·skip
  rintro k m ⟨hk,hn⟩
  simp-dsimp-implicitDefEqProofs (disch:=omega) only[go_sem,undef]
  refine AW.seq (fun N2 hN2=> ?_)
  refine AW.sr envOk (fun N hN=> ?_)
  simp-dsimp-implicitDefEqProofs (disch:=omega) only[go_sem,undef,tblV,w64]
  refine hN _ ?_
  try clear hN N
  refine AW.cond rfl (fun h1=> ?_) (fun h1=> ?_)
  ·try simp only[cn]at h1
   have hk2:k<82:=by omega
   have e0:=tcells_at (i:=0) hk2 (by omega)
   have e1:=tcells_at (i:=1) hk2 (by omega)
   simp only[Nat.add_zero,cellsR,List.getD_cons_zero,List.getD_cons_succ]at e0 e1
   have el0:k*3<tcells.length:=by rw[tcells_len];omega
   have el1:k*3+1<tcells.length:=by rw[tcells_len];omega
   refine AW.skip ?_
   simp only[thn,blk]
   refine hN2 _ ?_
   try clear hN2 N2
   refine AW.seq (fun N3 hN3=> ?_)
   refine AW.block ?_
   refine AW.seq (fun N4 hN4=> ?_)
   refine AW.seq (fun N hN=> ?_)
   refine AW.drawL envOk (by kernel_rfl) 16 (by kernel_rfl) ?_
   simp-dsimp-implicitDefEqProofs (disch:=omega) only[hr_nil,hr_one,hr_if,List.take_succ_cons,List.take_zero,List.drop_succ_cons,List.drop_zero,List.take_nil,List.drop_nil,go_sem,undef,tblV,w64]
   refine gopB.mk' (fun h2=> ?_) (fun h2=> ?_)
   ·try simp only[cn]at h2
    obtain⟨j,rfl⟩:∃j,k=j+1:=⟨k-1,by omega⟩
    have ew:(((j+1:Nat):Int)-1).toNat=j:=by omega
    have e2:=tcells_at (k:=j) (i:=0) (by omega) (by omega)
    simp only[Nat.add_zero,cellsR,List.getD_cons_zero]at e2
    have el2:j*3<tcells.length:=by rw[tcells_len];omega
    have hnum:=num_le j
    simp-dsimp-implicitDefEqProofs (disch:=omega) only[go_sem,undef,w64,ew,e0,e2,el0,el2,cur]
    try simp-dsimp-implicitDefEqProofs (disch:=omega) only[go_sem,undef,tblV,w64]
    refine hN _ ?_
    try clear hN N
    refine AW.cond rfl (fun h3=> ?_) (fun h3=> ?_)
    ·try simp only[cn]at h3
     have hnk:=num_gt h3
     refine AW.regionL envOk ?_
     simp-dsimp-implicitDefEqProofs (disch:=omega) only[go_sem,undef,tblV,w64]
     refine hN4 _ ?_
     try clear hN4 N4
     refine AW.seq (fun N5 hN5=> ?_)
     refine AW.sr envOk (fun N hN=> ?_)
     simp-dsimp-implicitDefEqProofs (disch:=omega) only[go_sem,undef,tblV,w64,e0,e1,el0,el1]
     refine hN _ ?_
     try clear hN N
     refine AW.cond rfl (fun h4=> ?_) (fun h4=> ?_)
     ·try simp only[cn]at h4
      refine AW.sr envOk (fun N hN=> ?_)
      simp-dsimp-implicitDefEqProofs (disch:=omega) only[go_sem,undef,tblV,w64,e0,e1,el0,el1]
      refine hN _ ?_
      try clear hN N
      refine AW.ret ?_
      simp-dsimp-implicitDefEqProofs (disch:=omega) only[go_sem,undef]
      rw[plc_some hk2 h4 hn,hnk]
     ·try simp only[cn]at h4
      refine AW.skip ?_
      simp only[thn,blk]
      refine hN5 _ ?_
      try clear hN5 N5
      refine AW.regionL envOk ?_
      simp-dsimp-implicitDefEqProofs (disch:=omega) only[go_sem,undef,tblV,w64]
      refine hN3 _ ?_
      try clear hN3 N3
      refine AW.regionL envOk ?_
      simp-dsimp-implicitDefEqProofs (disch:=omega) only[go_sem,undef,tblV,w64]
      refine⟨j+1+1,?_,fun _ _ h=>h,?_,?_⟩
      ·simp(disch:=omega) [wks,wkA,sl,cur,w64,hnk]
      ·exact⟨by omega,nx_none hn h4⟩
      ·first|omega|(simp only;omega)
    ·try simp only[cn]at h3
     have hnk:=num_eq (k:=j) (by omega) (by omega)
     refine AW.skip ?_
     simp only[thn,blk]
     refine hN4 _ ?_
     try clear hN4 N4
     refine AW.seq (fun N6 hN6=> ?_)
     refine AW.sr envOk (fun N hN=> ?_)
     simp-dsimp-implicitDefEqProofs (disch:=omega) only[go_sem,undef,tblV,w64,e0,e1,el0,el1]
     refine hN _ ?_
     try clear hN N
     refine AW.cond rfl (fun h5=> ?_) (fun h5=> ?_)
     ·try simp only[cn]at h5
      refine AW.sr envOk (fun N hN=> ?_)
      simp-dsimp-implicitDefEqProofs (disch:=omega) only[go_sem,undef,tblV,w64,e0,e1,el0,el1]
      refine hN _ ?_
      try clear hN N
      refine AW.ret ?_
      simp-dsimp-implicitDefEqProofs (disch:=omega) only[go_sem,undef]
      rw[plc_some hk2 h5 hn,hnk]
     ·try simp only[cn]at h5
      refine AW.skip ?_
      simp only[thn,blk]
      refine hN6 _ ?_
      try clear hN6 N6
      refine AW.regionL envOk ?_
      simp-dsimp-implicitDefEqProofs (disch:=omega) only[go_sem,undef,tblV,w64]
      refine hN3 _ ?_
      try clear hN3 N3
      refine AW.regionL envOk ?_
      simp-dsimp-implicitDefEqProofs (disch:=omega) only[go_sem,undef,tblV,w64]
      refine⟨j+1+1,?_,fun _ _ h=>h,?_,?_⟩
      ·simp(disch:=omega) [wks,wkA,sl,cur,w64,hnk]
      ·exact⟨by omega,nx_none hn h5⟩
      ·first|omega|(simp only;omega)
   ·try simp only[cn]at h2
    obtain rfl:k=0:=by simp at h2;omega
    have hnk:num 0=0:=rfl
    try simp-dsimp-implicitDefEqProofs (disch:=omega) only[go_sem,undef,tblV,w64]
    refine hN _ ?_
    try clear hN N
    refine AW.condF rfl ?_
    refine AW.skip ?_
    simp only[thn,blk]
    refine hN4 _ ?_
    try clear hN4 N4
    refine AW.seq (fun N7 hN7=> ?_)
    refine AW.sr envOk (fun N hN=> ?_)
    simp-dsimp-implicitDefEqProofs (disch:=omega) only[go_sem,undef,tblV,w64,e0,e1,el0,el1]
    refine hN _ ?_
    try clear hN N
    refine AW.cond rfl (fun h6=> ?_) (fun h6=> ?_)
    ·try simp only[cn]at h6
     refine AW.sr envOk (fun N hN=> ?_)
     simp-dsimp-implicitDefEqProofs (disch:=omega) only[go_sem,undef,tblV,w64,e0,e1,el0,el1]
     refine hN _ ?_
     try clear hN N
     refine AW.ret ?_
     simp-dsimp-implicitDefEqProofs (disch:=omega) only[go_sem,undef]
     rw[plc_some hk2 h6 hn];rfl
    ·try simp only[cn]at h6
     refine AW.skip ?_
     simp only[thn,blk]
     refine hN7 _ ?_
     try clear hN7 N7
     refine AW.regionL envOk ?_
     simp-dsimp-implicitDefEqProofs (disch:=omega) only[go_sem,undef,tblV,w64]
     refine hN3 _ ?_
     try clear hN3 N3
     refine AW.regionL envOk ?_
     simp-dsimp-implicitDefEqProofs (disch:=omega) only[go_sem,undef,tblV,w64]
     refine⟨0+1,?_,fun _ _ h=>h,?_,?_⟩
     ·simp(disch:=omega) [wks,wkA,sl,cur,w64,hnk]
     ·exact⟨by omega,nx_none hn h6⟩
     ·first|omega|(simp only;omega)
  ·try simp only[cn]at h1
   obtain rfl:k=82:=by omega
   refine AW.exit ?_
   simp only[thn,blk,if_true]
   refine hN1 _ ?_
   try clear hN1 N1
   refine AW.sr envOk (fun N hN=> ?_)
   simp-dsimp-implicitDefEqProofs (disch:=omega) only[go_sem,undef,tblV,w64]
   refine hN _ ?_
   try clear hN N
   refine AW.ret ?_
   simp-dsimp-implicitDefEqProofs (disch:=omega) only[go_sem,undef]
   rw[plc_none hn]
end Go.Proofs.YthncdadmkppclaaGreatDoor
