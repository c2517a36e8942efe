import Derived.Test.YteoeedlcpalgbaaDoorZ09
import Derived.Test.YteoeedlcpalgbaaDoorZ22
import Derived.Test.YteoeedlcpalgbaaDoorZ35
set_option linter.unusedVariables false
set_option linter.unusedSimpArgs false
namespace Go.Proofs.YteoeedlcpalgbaaDoor
open Nat (reduceAdd reduceSub reduceGT reduceEqDiff reduceMul)
noncomputable def ol:Nat→List Int
  |0=>[]
  |1=>[(trow 0).1]
  |k+2=>if (trow (k+1)).1>(trow k).1 then ol (k+1)++[(trow (k+1)).1]else ol (k+1)
theorem ol_y {k:Nat} (h:(trow (k+1)).1>(trow k).1):ol (k+1+1)=ol (k+1)++[(trow (k+1)).1]:=by rw[ol,if_pos h]
theorem ol_n {k:Nat} (h:¬(trow (k+1)).1>(trow k).1):ol (k+1+1)=ol (k+1):=by rw[ol,if_neg h]
theorem ol_len:∀k,(ol k).length≤k:=by
  intro k
  induction k with
  |zero=>exact Nat.le_refl _
  | succ k ih=>
    cases k with
    |zero=>exact Nat.le_refl _
    | succ k=>
      by_cases h:(trow (k+1)).1>(trow k).1
      · rw[ol_y h,List.length_append];simp only[List.length_cons,List.length_nil];omega
      · rw[ol_n h];omega
theorem ol_last:∀k,k<82→∃xs,ol (k+1)=xs++[(trow k).1]:=by
  intro k
  induction k with
  |zero=>intro _;exact⟨[],rfl⟩
  | succ k ih=>
    intro hk
    by_cases h:(trow (k+1)).1>(trow k).1
    · exact⟨_,ol_y h⟩
    · obtain⟨xs,hx⟩:=ih (by omega)
      have:=tbl_sorted hk
      exact⟨xs,by rw[ol_n h,hx,show(trow k).1=(trow (k+1)).1 by omega]⟩
noncomputable def oc (k:Nat):List AV:=(ol k).map (.i .i64)
theorem oc_len (k:Nat):(oc k).length=(ol k).length:=List.length_map ..
noncomputable def ordsV:AV:=ints (ol 82)
theorem intsL_nr (a:List Int):NR (ints a):= .v _ _ fun k x h=>by
  rw[List.getElem?_map]at h
  obtain⟨y,_,rfl⟩:=Option.map_eq_some_iff.1 h
  exact .i _ _
theorem oc_y {k:Nat} (h:(trow (k+1)).1>(trow k).1):oc (k+1+1)=List.take (ol (k+1)).length (oc (k+1))++[.i .i64 (trow (k+1)).1]:=by
  rw[List.take_of_length_le (by rw[oc_len];exact Nat.le_refl _),oc,ol_y h,List.map_append];rfl
theorem oc_n {k:Nat} (h:¬(trow (k+1)).1>(trow k).1):oc (k+1+1)=oc (k+1):=by rw[oc,ol_n h];rfl
set_option maxHeartbeats 2000000 in theorem spec_ListedOrders_ok:ACp Tryd.prog 17 [] ordsV:=by
 refine ACp.introV envOk Tryd.func17 rfl (by kernel_rfl) Tryd.ntmps17 Tryd.results17 ((intsL_nr _)) (fun nx cX=> ?_)
 refine AW.sr envOk (fun N hN=> ?_)
 simp-dsimp-implicitDefEqProofs (disch:=omega) only[go_sem,undef,tblV,w64]
 refine hN _ ?_
 try clear hN N
 refine AW.sr envOk (fun N hN=> ?_)
 simp-dsimp-implicitDefEqProofs (disch:=omega) only[go_sem,undef,tblV,w64]
 refine AC.pure (.of (spec_l30Table_ok)) ?_
 try simp-dsimp-implicitDefEqProofs (disch:=omega) only[go_sem,undef,tblV,w64]
 refine hN _ ?_
 try clear hN N
 refine AW.sr envOk (fun N hN=> ?_)
 simp-dsimp-implicitDefEqProofs (disch:=omega) only[go_sem,undef,tblV,w64]
 refine hN _ ?_
 try clear hN N
 refine AW.seq (fun N1 hN1=> ?_)
 refine AW.sr envOk (fun N hN=> ?_)
 simp-dsimp-implicitDefEqProofs (disch:=omega) only[go_sem,undef,tblV,w64]
 refine hN _ ?_
 try clear hN N
 refine AW.block ?_
 refine AW.loopN (α:=Nat×Nat) (fun x=>sl 37 [(1,.v 82 tcells),(2,.h x.2 0 (ol x.1).length),(3,.i .i64 x.1)]) (fun x=>upd noH x.2 (some (oc x.1))) (fun x m=>x.1≤82∧x.2<m) (fun x=>82-x.1) ((0,nx+1+2+0)) ?_ ?_ (fun _ _ h=>h) ?_
 ·exact⟨by simp only;omega,by simp only;omega⟩
 ·simp(disch:=omega) [wks,wkA,sl,ol,tblV]
 ·skip
  rintro⟨k,id⟩ m ⟨hk,hid⟩
  simp only at hk hid ⊢
  have hol:=ol_len k
  have hcl:=oc_len k
  refine AW.seq (fun N2 hN2=> ?_)
  refine AW.sr envOk (fun N hN=> ?_)
  simp-dsimp-implicitDefEqProofs (disch:=omega) only[go_sem,undef,tblV,w64]
  refine hN _ ?_
  try clear hN N
  refine AW.cond rfl (fun h1=> ?_) (fun h1=> ?_)
  ·try simp only[cn]at h1
   have hk2:k<82:=by omega
   have e0:=tcells_at (i:=0) hk2 (by omega)
   simp only[Nat.add_zero,cellsR,List.getD_cons_zero]at e0
   have el0:k*3<tcells.length:=by rw[tcells_len];omega
   refine AW.skip ?_
   simp only[thn,blk]
   refine hN2 _ ?_
   try clear hN2 N2
   refine AW.seq (fun N3 hN3=> ?_)
   refine AW.block ?_
   refine AW.seq (fun N hN=> ?_)
   refine AW.drawL envOk (by kernel_rfl) 16 (by kernel_rfl) ?_
   simp-dsimp-implicitDefEqProofs (disch:=omega) only[hr_nil,hr_one,hr_if,List.take_succ_cons,List.take_zero,List.drop_succ_cons,List.drop_zero,List.take_nil,List.drop_nil,go_sem,undef,tblV,w64]
   refine gopB.mk' (fun h2=> ?_) (fun h2=> ?_)
   ·try simp only[cn]at h2
    obtain⟨j,rfl⟩:∃j,k=j+1:=⟨k-1,by have:=h2;simp at this;omega⟩
    have ew:(((j+1:Nat):Int)-1).toNat=j:=by omega
    have e2:=tcells_at (k:=j) (i:=0) (by omega) (by omega)
    simp only[Nat.add_zero,cellsR,List.getD_cons_zero]at e2
    have el2:j*3<tcells.length:=by rw[tcells_len];omega
    simp-dsimp-implicitDefEqProofs (disch:=omega) only[go_sem,undef,w64,ew,e0,e2,el0,el2]
    try simp-dsimp-implicitDefEqProofs (disch:=omega) only[go_sem,undef,tblV,w64]
    refine hN _ ?_
    try clear hN N
    refine AW.cond rfl (fun h3=> ?_) (fun h3=> ?_)
    ·try simp only[cn]at h3
     have es:=oc_y h3
     have es1:(ol (j+1+1)).length=(ol (j+1)).length+1:=by rw[ol_y h3,List.length_append];rfl
     refine AW.regionL envOk ?_
     simp-dsimp-implicitDefEqProofs (disch:=omega) only[go_sem,undef,tblV,w64,e0,el0]
     refine hN3 _ ?_
     try clear hN3 N3
     refine AW.regionL envOk ?_
     simp-dsimp-implicitDefEqProofs (disch:=omega) only[go_sem,undef,tblV,w64]
     refine⟨(j+1+1,_),?_,by rw[es];exact le_one (upd_same _ _ _),?_,?_⟩
     ·simp(disch:=omega) [wks,wkA,sl,es1,w64]
     ·exact⟨by simp only;omega,by first|omega|(simp only;omega)|(dsimp only;omega)⟩
     ·first|omega|(simp only;omega)
    ·try simp only[cn]at h3
     have es:=oc_n (k:=j) (by omega)
     have es1:(ol (j+1+1)).length=(ol (j+1)).length:=by rw[ol_n (by omega)]
     refine AW.skip ?_
     simp only[thn,blk]
     refine hN3 _ ?_
     try clear hN3 N3
     refine AW.regionL envOk ?_
     simp-dsimp-implicitDefEqProofs (disch:=omega) only[go_sem,undef,tblV,w64]
     refine⟨(j+1+1,id),?_,by rw[es];exact fun _ _ h=>h,?_,?_⟩
     ·simp(disch:=omega) [wks,wkA,sl,es1,w64]
     ·exact⟨by simp only;omega,by first|omega|(simp only;omega)|(dsimp only;omega)⟩
     ·first|omega|(simp only;omega)
   ·try simp only[cn]at h2
    obtain rfl:k=0:=by simp at h2;omega
    have es1:(ol (0+1)).length=(ol 0).length+1:=rfl
    try simp-dsimp-implicitDefEqProofs (disch:=omega) only[go_sem,undef,tblV,w64]
    refine hN _ ?_
    try clear hN N
    refine AW.condT rfl ?_
    refine AW.regionL envOk ?_
    simp-dsimp-implicitDefEqProofs (disch:=omega) only[go_sem,undef,tblV,w64,e0,el0]
    refine hN3 _ ?_
    try clear hN3 N3
    refine AW.regionL envOk ?_
    simp-dsimp-implicitDefEqProofs (disch:=omega) only[go_sem,undef,tblV,w64]
    refine⟨(0+1,_),?_,le_one (upd_same _ _ _),?_,?_⟩
    ·simp(disch:=omega) [wks,wkA,sl,es1,w64]
    ·exact⟨by simp only;omega,by first|omega|(simp only;omega)|(dsimp only;omega)⟩
    ·first|omega|(simp only;omega)
  ·try simp only[cn]at h1
   obtain rfl:k=82:=by omega
   refine AW.exit ?_
   simp only[thn,blk,if_true]
   refine hN1 _ ?_
   try clear hN1 N1
   refine AW.sr envOk (fun N hN=> ?_)
   simp-dsimp-implicitDefEqProofs (disch:=omega) only[go_sem,undef,tblV,w64]
   refine hN _ ?_
   try clear hN N
   refine AW.ret ?_
   simp-dsimp-implicitDefEqProofs (disch:=omega) only[go_sem,undef]
   exact vw_hall hcl
theorem oc_last {k:Nat} (h:k<82):0<(ol (k+1)).length∧(oc (k+1)).getD ((ol (k+1)).length-1) .j= .i .i64 (trow k).1:=by
  obtain⟨xs,hx⟩:=ol_last k h
  rw[oc,hx]
  refine⟨by simp,?_⟩
  rw[List.getD_eq_getElem?_getD,List.map_append,List.length_append,List.length_cons,List.length_nil,Nat.add_sub_cancel,List.getElem?_append_right (by simp)]
  simp
noncomputable def oAx:Nat→Nat→AV
  |0,_=> .nl
  |k+1,id=> .h id 0 (ol (k+1)).length
noncomputable def oHx (H:HP):Nat→Nat→HP
  |0,_=>H
  |k+1,id=>upd H id (some (oc (k+1)))
theorem le_ap {H H':HP} {id nx:Nat} {c:List AV} (h:H' id=some c) (hlt:∀i c,H i=some c→i<nx) (hk:∀i,i<nx→H' i=H i):∀i cs,upd H id (some c) i=some cs→H' i=some cs:=by
  intro i cs hd
  simp only[upd]at hd
  split at hd
  · rename_i e;subst e;rw[h];exact hd
  · rw[hk i (hlt i cs hd)];exact hd
set_option maxHeartbeats 2000000 in theorem impl_ListedOrders_fr (nx:Nat) (H:HP):AC Tryd.prog 18 nx H [] (fun nx' H' r=>FrI nx nx' H H' r (ol 82).length (fun j=>(ol 82).getD j 0)):=by
 refine AC.introx envOk Tryd.func18 rfl (by kernel_rfl) Tryd.ntmps18 Tryd.results18 (fun hfr cX=> ?_)
 have hlt:∀i c,H i=some c→i<nx:=fun i c h=>Nat.lt_of_not_le fun hn=>by rw[hfr i hn]at h;cases h
 refine AW.sr envOk (fun N hN=> ?_)
 simp-dsimp-implicitDefEqProofs (disch:=omega) only[go_sem,undef,libV,w64]
 refine hN _ ?_
 try clear hN N
 refine AW.sr envOk (fun N hN=> ?_)
 simp-dsimp-implicitDefEqProofs (disch:=omega) only[go_sem,undef,libV,w64]
 refine hN _ ?_
 try clear hN N
 refine AW.seq (fun N1 hN1=> ?_)
 refine AW.sr envOk (fun N hN=> ?_)
 simp-dsimp-implicitDefEqProofs (disch:=omega) only[go_sem,undef,libV,w64]
 refine AC.pure (.of (impl_libraryGroups_ok)) ?_
 try simp-dsimp-implicitDefEqProofs (disch:=omega) only[go_sem,undef,libV,w64]
 refine hN _ ?_
 try clear hN N
 refine AW.block ?_
 refine AW.loopN (α:=Nat×Nat) (fun x=>sl 31 [(1,oAx x.1 x.2),(4,.v 82 (gcells 82)),(5,.i .i64 82),(6,.i .i64 x.1)]) (fun x=>oHx H x.1 x.2) (fun x m=>x.1≤82∧nx≤m∧(0<x.1→nx≤x.2∧x.2<m)) (fun x=>82-x.1) ((0,0)) ?_ ?_ (fun _ _ h=>h) ?_
 ·exact⟨by simp only;omega,by first|omega|(simp only;omega)|(dsimp only;omega),fun h=>absurd h (by decide)⟩
 ·simp(disch:=omega) [wks,wkA,sl,oAx,libV]
 ·skip
  rintro⟨k,id⟩ m ⟨hk,hnm,hid⟩
  simp only at hk hid ⊢
  rcases k with _|k
  ·skip
   simp only[oAx,oHx]
   refine AW.sr envOk (fun N hN=> ?_)
   simp-dsimp-implicitDefEqProofs (disch:=omega) only[go_sem,undef,libV,w64]
   refine hN _ ?_
   try clear hN N
   refine AW.seq (fun N2 hN2=> ?_)
   refine AW.cond rfl (fun h1=> ?_) (fun h1=> ?_)
   ·try simp only[cn]at h1
    have ep:List.take 4 (gcells 82)=gcell 0:=by have:=gcells_part (k:=0) (by decide);rwa [Nat.zero_mul,List.drop_zero]at this
    have eq:4≤(gcells 82).length:=by rw[gcells_len];omega
    refine AW.skip ?_
    simp only[thn,blk]
    refine hN2 _ ?_
    try clear hN2 N2
    refine AW.seq (fun N3 hN3=> ?_)
    refine AW.block ?_
    refine AW.sr envOk (fun N hN=> ?_)
    simp-dsimp-implicitDefEqProofs (disch:=omega) only[go_sem,undef,libV,w64,ep,gcell,eq,arr4,one4t]
    refine hN _ ?_
    try clear hN N
    refine AW.seq (fun N hN=> ?_)
    refine AW.drawL envOk (by kernel_rfl) 14 (by kernel_rfl) ?_
    simp-dsimp-implicitDefEqProofs (disch:=omega) only[hr_nil,hr_one,hr_if,List.take_succ_cons,List.take_zero,List.drop_succ_cons,List.drop_zero,List.take_nil,List.drop_nil,go_sem,undef,libV,w64]
    refine gopB.mk' (fun h2=> ?_) (fun h2=> ?_)
    ·try simp only[cn]at h2
     simp at h2
    ·try simp only[cn]at h2
     have es1:(ol (0+1)).length=1:=rfl
     try simp-dsimp-implicitDefEqProofs (disch:=omega) only[go_sem,undef,libV,w64]
     refine hN _ ?_
     try clear hN N
     refine AW.condT rfl ?_
     refine AW.regionL envOk ?_
     simp-dsimp-implicitDefEqProofs (disch:=omega) only[go_sem,undef,libV,w64]
     refine hN3 _ ?_
     try clear hN3 N3
     refine AW.regionL envOk ?_
     simp-dsimp-implicitDefEqProofs (disch:=omega) only[go_sem,undef,libV,w64]
     refine⟨(0+1,_),?_,le_ap (c:=oc (0+1)) (upd_same _ _ _) hlt (by intro i hi;simp(disch:=omega) only[upd_ne]),?_,?_⟩
     ·simp(disch:=omega) [wks,wkA,sl,oAx,w64,es1]
     ·exact⟨by simp only;omega,fun _=>⟨by first|omega|(simp only;omega)|(dsimp only;omega),by first|omega|(simp only;omega)|(dsimp only;omega)⟩⟩
     ·first|omega|(simp only;omega)
   ·try simp only[cn]at h1
    simp at h1
  ·skip
   simp only[oAx,oHx]
   obtain⟨hid1,hid2⟩:=hid (by omega)
   have hcl:=oc_len (k+1)
   refine AW.sr envOk (fun N hN=> ?_)
   simp-dsimp-implicitDefEqProofs (disch:=omega) only[go_sem,undef,libV,w64]
   refine hN _ ?_
   try clear hN N
   refine AW.seq (fun N4 hN4=> ?_)
   refine AW.cond rfl (fun h3=> ?_) (fun h3=> ?_)
   ·try simp only[cn]at h3
    have hk2:k+1<82:=by omega
    have ep:=gcells_part hk2
    have eq:(k+1)*4+4≤(gcells 82).length:=by rw[gcells_len];omega
    refine AW.skip ?_
    simp only[thn,blk]
    refine hN4 _ ?_
    try clear hN4 N4
    refine AW.seq (fun N5 hN5=> ?_)
    refine AW.block ?_
    refine AW.sr envOk (fun N hN=> ?_)
    simp-dsimp-implicitDefEqProofs (disch:=omega) only[go_sem,undef,libV,w64,ep,gcell,eq,arr4,one4t]
    refine hN _ ?_
    try clear hN N
    refine AW.seq (fun N hN=> ?_)
    refine AW.drawL envOk (by kernel_rfl) 14 (by kernel_rfl) ?_
    simp-dsimp-implicitDefEqProofs (disch:=omega) only[hr_nil,hr_one,hr_if,List.take_succ_cons,List.take_zero,List.drop_succ_cons,List.drop_zero,List.take_nil,List.drop_nil,go_sem,undef,libV,w64]
    refine gopB.mk' (fun h4=> ?_) (fun h4=> ?_)
    ·try simp only[cn]at h4
     have ⟨hp,hl⟩:=oc_last (k:=k) (by omega)
     have hol:=ol_len (k+1)
     have ew:(((ol (k+1)).length:Int)-1).toNat=(ol (k+1)).length-1:=by omega
     have el:(ol (k+1)).length-1<(oc (k+1)).length:=by omega
     simp-dsimp-implicitDefEqProofs (disch:=omega) only[go_sem,undef,w64,ew,hl,el]
     try simp-dsimp-implicitDefEqProofs (disch:=omega) only[go_sem,undef,libV,w64]
     refine hN _ ?_
     try clear hN N
     refine AW.cond rfl (fun h5=> ?_) (fun h5=> ?_)
     ·try simp only[cn]at h5
      have hsr:=tbl_sorted hk2
      have hgt:(trow (k+1)).1>(trow k).1:=by omega
      have es1:(ol (k+1+1)).length=(ol (k+1)).length+1:=by rw[ol_y hgt,List.length_append];rfl
      refine AW.regionL envOk ?_
      simp-dsimp-implicitDefEqProofs (disch:=omega) only[go_sem,undef,libV,w64]
      refine hN5 _ ?_
      try clear hN5 N5
      refine AW.regionL envOk ?_
      simp-dsimp-implicitDefEqProofs (disch:=omega) only[go_sem,undef,libV,w64]
      refine⟨(k+1+1,_),?_,le_ap (c:=oc (k+1+1)) (by rw[oc_y hgt];exact upd_same _ _ _) hlt (by intro i hi;simp(disch:=omega) only[upd_ne]),?_,?_⟩
      ·simp(disch:=omega) [wks,wkA,sl,oAx,w64,es1]
      ·exact⟨by simp only;omega,fun _=>⟨by first|omega|(simp only;omega)|(dsimp only;omega),by first|omega|(simp only;omega)|(dsimp only;omega)⟩⟩
      ·first|omega|(simp only;omega)
     ·try simp only[cn]at h5
      have hgt:¬(trow (k+1)).1>(trow k).1:=by omega
      have es1:(ol (k+1+1)).length=(ol (k+1)).length:=by rw[ol_n hgt]
      refine AW.skip ?_
      simp only[thn,blk]
      refine hN5 _ ?_
      try clear hN5 N5
      refine AW.regionL envOk ?_
      simp-dsimp-implicitDefEqProofs (disch:=omega) only[go_sem,undef,libV,w64]
      refine⟨(k+1+1,id),?_,le_ap (c:=oc (k+1+1)) (by rw[oc_n hgt];simp(disch:=omega) only[upd_same,upd_ne]) hlt (by intro i hi;simp(disch:=omega) only[upd_ne]),?_,?_⟩
      ·simp(disch:=omega) [wks,wkA,sl,oAx,w64,es1]
      ·exact⟨by simp only;omega,fun _=>⟨by first|omega|(simp only;omega)|(dsimp only;omega),by first|omega|(simp only;omega)|(dsimp only;omega)⟩⟩
      ·first|omega|(simp only;omega)
    ·try simp only[cn]at h4
     have hp:=(oc_last (k:=k) (by omega)).1
     simp at h4
     simp[h4]at hp
   ·try simp only[cn]at h3
    obtain rfl:k=81:=by omega
    refine AW.exit ?_
    simp only[thn,blk,if_true]
    refine hN1 _ ?_
    try clear hN1 N1
    refine AW.sr envOk (fun N hN=> ?_)
    simp-dsimp-implicitDefEqProofs (disch:=omega) only[go_sem,undef,libV,w64]
    refine hN _ ?_
    try clear hN N
    refine AW.ret ?_
    simp-dsimp-implicitDefEqProofs (disch:=omega) only[go_sem,undef]
    exact⟨_,fun _ _ h=>h,id,rfl,hid1,by omega,show upd H id (some (oc 82))=_ by rw[oc,map_ivs]⟩
theorem impl_ListedOrders_o:ACo Tryd.prog 18 [] ordsV:=by
  have:=FrI.aco (fun nx=>impl_ListedOrders_fr nx noH)
  rwa [←vec_of]at this
set_option maxHeartbeats 2000000 in theorem law_ListedOrders:ACp Tryd.prog 6 [] (.b true):=by
 have hl:(ol 82).length≤1048576:=by have:=ol_len 82;omega
 have heq:=laws_eqInt64S_ok (ol 82) (ol 82) (by omega) (by omega)
 refine ACp.intro' envOk Tryd.func6 rfl (by kernel_rfl) Tryd.ntmps6 Tryd.results6 (.b _) (fun nx cX=> ?_)
 refine AW.sr envOk (fun N hN=> ?_)
 simp-dsimp-implicitDefEqProofs (disch:=omega) only[go_sem,undef,ordsV]
 refine hN _ ?_
 try clear hN N
 refine AW.sr envOk (fun N hN=> ?_)
 simp-dsimp-implicitDefEqProofs (disch:=omega) only[go_sem,undef,ordsV]
 refine AC.pure (.of (spec_ListedOrders_ok)) ?_
 try simp-dsimp-implicitDefEqProofs (disch:=omega) only[go_sem,undef,ordsV]
 refine hN _ ?_
 try clear hN N
 refine AW.sr envOk (fun N hN=> ?_)
 simp-dsimp-implicitDefEqProofs (disch:=omega) only[go_sem,undef,ordsV]
 refine AC.hold impl_ListedOrders_o .nil ?_
 intro m2 H2 r2 hm2 hH2 ho
 try simp-dsimp-implicitDefEqProofs (disch:=omega) only[go_sem,undef,ordsV]
 try simp-dsimp-implicitDefEqProofs (disch:=omega) only[go_sem,undef,]
 refine hN _ ?_
 try clear hN N
 refine AW.seq (fun N1 hN1=> ?_)
 refine AW.sr envOk (fun N hN=> ?_)
 simp-dsimp-implicitDefEqProofs (disch:=omega) only[go_sem,undef,ordsV]
 refine AC.pure (.lent (heq) (.cons ho.vw (.cons (.refl _) .nil)) (.b _)) ?_
 try simp-dsimp-implicitDefEqProofs (disch:=omega) only[go_sem,undef,ordsV]
 refine hN _ ?_
 try clear hN N
 refine AW.cond rfl (fun h1=> ?_) (fun h1=> ?_)
 ·try simp only[cn]at h1
  simp at h1
 ·try simp only[cn]at h1
  refine AW.skip ?_
  simp only[thn,blk]
  refine hN1 _ ?_
  try clear hN1 N1
  refine AW.sr envOk (fun N hN=> ?_)
  simp-dsimp-implicitDefEqProofs (disch:=omega) only[go_sem,undef,ordsV]
  refine hN _ ?_
  try clear hN N
  refine AW.sr envOk (fun N hN=> ?_)
  simp-dsimp-implicitDefEqProofs (disch:=omega) only[go_sem,undef,ordsV]
  refine(markS_g hl ho (by omega) (by omega)).mono2 ?_
  rintro m4 H4 res hm4 ⟨rfl,ho2,hH4⟩
  try simp-dsimp-implicitDefEqProofs (disch:=omega) only[go_sem,undef,ordsV]
  refine hN _ ?_
  try clear hN N
  refine AW.sr envOk (fun N hN=> ?_)
  simp-dsimp-implicitDefEqProofs (disch:=omega) only[go_sem,undef,ordsV]
  refine hN _ ?_
  try clear hN N
  refine AW.sr envOk (fun N hN=> ?_)
  simp-dsimp-implicitDefEqProofs (disch:=omega) only[go_sem,undef,ordsV]
  refine AC.pure (.lent (held_g hl (by omega) (by omega)) (.cons ho2.vw (.cons (.refl _) .nil)) (.i _ _)) ?_
  try simp-dsimp-implicitDefEqProofs (disch:=omega) only[go_sem,undef,ordsV]
  refine hN _ ?_
  try clear hN N
  refine AW.seq (fun N2 hN2=> ?_)
  refine AW.sr envOk (fun N hN=> ?_)
  simp-dsimp-implicitDefEqProofs (disch:=omega) only[go_sem,undef,ordsV]
  refine hN _ ?_
  try clear hN N
  refine AW.cond rfl (fun h2=> ?_) (fun h2=> ?_)
  ·try simp only[cn]at h2
   omega
  ·try simp only[cn]at h2
   refine AW.skip ?_
   simp only[thn,blk]
   refine hN2 _ ?_
   try clear hN2 N2
   refine AW.seq (fun N3 hN3=> ?_)
   refine AW.sr envOk (fun N hN=> ?_)
   simp-dsimp-implicitDefEqProofs (disch:=omega) only[go_sem,undef,ordsV]
   refine hN _ ?_
   try clear hN N
   refine AW.cond rfl (fun h3=> ?_) (fun h3=> ?_)
   ·try simp only[cn]at h3
    simp at h3
   ·try simp only[cn]at h3
    refine AW.skip ?_
    simp only[thn,blk]
    refine hN3 _ ?_
    try clear hN3 N3
    refine AW.sr envOk (fun N hN=> ?_)
    simp-dsimp-implicitDefEqProofs (disch:=omega) only[go_sem,undef,ordsV]
    refine AC.pure (.of (impl_ListedOrders_o.pure)) ?_
    try simp-dsimp-implicitDefEqProofs (disch:=omega) only[go_sem,undef,ordsV]
    refine hN _ ?_
    try clear hN N
    refine AW.seq (fun N4 hN4=> ?_)
    refine AW.sr envOk (fun N hN=> ?_)
    simp-dsimp-implicitDefEqProofs (disch:=omega) only[go_sem,undef,ordsV]
    refine AC.pure (.of (heq)) ?_
    try simp-dsimp-implicitDefEqProofs (disch:=omega) only[go_sem,undef,ordsV]
    refine hN _ ?_
    try clear hN N
    refine AW.cond rfl (fun h4=> ?_) (fun h4=> ?_)
    ·try simp only[cn]at h4
     simp at h4
    ·try simp only[cn]at h4
     refine AW.skip ?_
     simp only[thn,blk]
     refine hN4 _ ?_
     try clear hN4 N4
     refine AW.sr envOk (fun N hN=> ?_)
     simp-dsimp-implicitDefEqProofs (disch:=omega) only[go_sem,undef,ordsV]
     refine hN _ ?_
     try clear hN N
     refine AW.sr envOk (fun N hN=> ?_)
     simp-dsimp-implicitDefEqProofs (disch:=omega) only[go_sem,undef,ordsV]
     refine AC.pure (.lent (held_g hl (by omega) (by omega)) (.cons ho2.vw (.cons (.refl _) .nil)) (.i _ _)) ?_
     try simp-dsimp-implicitDefEqProofs (disch:=omega) only[go_sem,undef,ordsV]
     refine hN _ ?_
     try clear hN N
     refine AW.seq (fun N5 hN5=> ?_)
     refine AW.sr envOk (fun N hN=> ?_)
     simp-dsimp-implicitDefEqProofs (disch:=omega) only[go_sem,undef,ordsV]
     refine hN _ ?_
     try clear hN N
     refine AW.cond rfl (fun h5=> ?_) (fun h5=> ?_)
     ·try simp only[cn]at h5
      omega
     ·try simp only[cn]at h5
      refine AW.skip ?_
      simp only[thn,blk]
      refine hN5 _ ?_
      try clear hN5 N5
      refine AW.seq (fun N6 hN6=> ?_)
      refine AW.sr envOk (fun N hN=> ?_)
      simp-dsimp-implicitDefEqProofs (disch:=omega) only[go_sem,undef,ordsV]
      refine hN _ ?_
      try clear hN N
      refine AW.cond rfl (fun h6=> ?_) (fun h6=> ?_)
      ·try simp only[cn]at h6
       simp at h6
      ·try simp only[cn]at h6
       refine AW.skip ?_
       simp only[thn,blk]
       refine hN6 _ ?_
       try clear hN6 N6
       refine AW.sr envOk (fun N hN=> ?_)
       simp-dsimp-implicitDefEqProofs (disch:=omega) only[go_sem,undef,ordsV]
       refine hN _ ?_
       try clear hN N
       refine AW.ret ?_
       simp-dsimp-implicitDefEqProofs (disch:=omega) only[go_sem,undef]
       skip
end Go.Proofs.YteoeedlcpalgbaaDoor
