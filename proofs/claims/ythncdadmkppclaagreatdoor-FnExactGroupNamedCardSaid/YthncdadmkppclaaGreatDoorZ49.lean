import Derived.Test.YthncdadmkppclaaGreatDoorZ48
set_option linter.unusedVariables false
set_option linter.unusedSimpArgs false
namespace Go.Proofs.YthncdadmkppclaaGreatDoor
open Nat (reduceAdd reduceSub reduceGT reduceEqDiff reduceMul)
noncomputable def gP (s:ByteArray):PD:=match plc s with|some k=>pdT k|none=>([],[],[])
theorem gP_some {s:ByteArray} {k:Nat} (hk:k<82) (h:nameIs s k) (hn:∀j,j<k→¬nameIs s j):gP s=pdT k∧plE s=0∧plA s=(trow k).1∧plB s=num k:=by
  have:plc s=some k:=by
    unfold plc
    rw[List.find?_range_eq_some]
    exact⟨tf_t h,List.mem_range.2 hk,fun j hj=>by rw[tf_f (hn j hj)];rfl⟩
  rw[gP,plE,plA,plB,this];exact⟨rfl,rfl,rfl,rfl⟩
theorem gP_none {s:ByteArray} (hn:∀j,j<82→¬nameIs s j):gP s=([],[],[])∧plE s=4:=by
  have:plc s=none:=by
    unfold plc
    rw[List.find?_eq_none]
    intro j hj
    rw[tf_f (hn j (List.mem_range.1 hj))];decide
  rw[gP,plE,this];exact⟨rfl,rfl⟩
theorem place_all:((List.range 82).map fun k=>decide (fdE (trow k).1 (num k)=0)&& decide (fdK (trow k).1 (num k)=k))=List.replicate 82 true:=by kernel_rfl
theorem plc_lt {s:ByteArray} {k:Nat} (h:plc s=some k):k<82:=by
  unfold plc at h
  exact List.mem_range.1 (List.mem_of_find?_eq_some h)
theorem gP_fP {s:ByteArray} (h:plE s=0):fP (plA s) (plB s)=gP s∧fdE (plA s) (plB s)=0:=by
  cases hp:plc s with
  |none=>rw[plE,hp]at h;cases h
  | some k=>
    have h1:=at82 place_all (plc_lt hp)
    simp only[Bool.and_eq_true,decide_eq_true_eq]at h1
    have e:plA s=(trow k).1∧plB s=num k∧gP s=pdT k:=by rw[plA,plB,gP,hp];exact⟨rfl,rfl,rfl⟩
    rw[e.1,e.2.1,e.2.2,fP,if_pos h1.1,h1.2]
    exact⟨rfl,h1.1⟩
theorem spec_GroupNamed_ok (s:ByteArray):ACp Tryz.prog 10 [.s s] (.t [prs (gP s).1 (gP s).2.1 (gP s).2.2,.i .i64 (plE s)]):=by
 refine ACp.introV envOk Tryz.func10 rfl (by kernel_rfl) Tryz.ntmps10 Tryz.results10 ((t2_nr (prs_nr _ _ _) _)) (fun nx cX=> ?_)
 refine AW.sr envOk (fun N hN=> ?_)
 simp-dsimp-implicitDefEqProofs (disch:=omega) only[go_sem,undef,w64,plcR,prs]
 refine hN _ ?_
 try clear hN N
 refine AW.sr envOk (fun N hN=> ?_)
 simp-dsimp-implicitDefEqProofs (disch:=omega) only[go_sem,undef,w64,plcR,prs]
 refine AC.pure (.of (spec_PlaceOfName_ok s)) ?_
 try simp-dsimp-implicitDefEqProofs (disch:=omega) only[go_sem,undef,w64,plcR,prs]
 refine hN _ ?_
 try clear hN N
 refine AW.seq (fun N1 hN1=> ?_)
 refine AW.sr envOk (fun N hN=> ?_)
 simp-dsimp-implicitDefEqProofs (disch:=omega) only[go_sem,undef,w64,plcR,prs]
 refine hN _ ?_
 try clear hN N
 refine AW.cond rfl (fun h1=> ?_) (fun h1=> ?_)
 ·try simp only[cn]at h1
  have he:plE s≠0:=by simpa using h1
  have hf:gP s=([],[],[]):=by
   cases hp:plc s with
   |none=>rw[gP,hp]
   |some k=>exact absurd (by rw[plE,hp]) he
  refine AW.sr envOk (fun N hN=> ?_)
  simp-dsimp-implicitDefEqProofs (disch:=omega) only[go_sem,undef,w64,plcR,prs]
  refine hN _ ?_
  try clear hN N
  refine AW.ret ?_
  simp-dsimp-implicitDefEqProofs (disch:=omega) only[go_sem,undef]
  rw[hf]
  exact vw_pr prs_z.vw
 ·try simp only[cn]at h1
  have he:plE s=0:=by simpa using h1
  obtain⟨hf,hf2⟩:=gP_fP he
  refine AW.skip ?_
  simp only[thn,blk]
  refine hN1 _ ?_
  try clear hN1 N1
  refine AW.sr envOk (fun N hN=> ?_)
  simp-dsimp-implicitDefEqProofs (disch:=omega) only[go_sem,undef,w64,plcR,prs]
  refine AC.pure (.of (spec_ListedGroup_ok (plA s) (plB s))) ?_
  try simp-dsimp-implicitDefEqProofs (disch:=omega) only[go_sem,undef,w64,plcR,prs]
  refine hN _ ?_
  try clear hN N
  refine AW.ret ?_
  simp-dsimp-implicitDefEqProofs (disch:=omega) only[go_sem,undef]
  rw[hf,hf2,he]
  exact .refl _
set_option maxHeartbeats 2000000 in
theorem impl_GroupNamed_o (s:ByteArray):ACow 2 Tryz.prog 11 [.s s] (.t [prs (gP s).1 (gP s).2.1 (gP s).2.2,.i .i64 (plE s)]):=by
 intro nx
 refine ACw.intro envOk Tryz.func11 rfl (by kernel_rfl) Tryz.ntmps11 Tryz.results11 (fun cX hcg _ _=> ?_)
 refine AW.sr envOk (fun N hN=> ?_)
 simp-dsimp-implicitDefEqProofs (disch:=omega) only[go_sem,undef,libV,w64,arr4,one4t]
 refine hN _ ?_
 try clear hN N
 refine AW.seq (fun N1 hN1=> ?_)
 refine AW.sr envOk (fun N hN=> ?_)
 simp-dsimp-implicitDefEqProofs (disch:=omega) only[go_sem,undef,libV,w64,arr4,one4t]
 refine AC.pure (.of (impl_libraryGroups_ok)) ?_
 try simp-dsimp-implicitDefEqProofs (disch:=omega) only[go_sem,undef,libV,w64,arr4,one4t]
 refine hN _ ?_
 try clear hN N
 refine AW.block ?_
 refine AW.loopN (α:=Nat) (fun x=>sl 20 [(0,.s s),(2,.q nx 0),(6,.v 82 (gcells 82)),(7,.i .i64 82),(8,.i .i64 x)]) (fun _=>upd noH nx (some [.nl,.nl,.nl])) (fun x m=>x≤82∧nx+2≤m∧∀j,j<x→¬nameIs s j) (fun x=>82-x) (0) ?_ ?_ (fun _ _ h=>h) ?_
 ·exact⟨by omega,by first|omega|(simp only;omega)|(dsimp only;omega),by intro j hj;omega⟩
 ·simp(disch:=omega) [wks,wkA,sl,w64,ints,rows,cubes,libV,w64,arr4,one4t]<;>omega
 ·skip
  rintro k m ⟨hk,hm,hn⟩
  simp-dsimp-implicitDefEqProofs (disch:=omega) only[go_sem,undef]
  refine AW.sr envOk (fun N hN=> ?_)
  simp-dsimp-implicitDefEqProofs (disch:=omega) only[go_sem,undef,libV,w64,arr4,one4t]
  refine hN _ ?_
  try clear hN N
  refine AW.seq (fun N2 hN2=> ?_)
  refine AW.cond rfl (fun h1=> ?_) (fun h1=> ?_)
  ·try simp only[cn]at h1
   have hk2:k<82:=by omega
   have ep:=gcells_part hk2
   have eq:k*4+4≤(gcells 82).length:=by rw[gcells_len];omega
   refine AW.skip ?_
   simp only[thn,blk]
   refine hN2 _ ?_
   try clear hN2 N2
   refine AW.seq (fun N3 hN3=> ?_)
   refine AW.block ?_
   refine AW.sr envOk (fun N hN=> ?_)
   simp-dsimp-implicitDefEqProofs (disch:=omega) only[go_sem,undef,libV,w64,arr4,one4t,ep,gcell,eq,arr4,one4t]
   refine hN _ ?_
   try clear hN N
   refine AW.sr envOk (fun N hN=> ?_)
   simp-dsimp-implicitDefEqProofs (disch:=omega) only[go_sem,undef,libV,w64,arr4,one4t]
   refine hN _ ?_
   try clear hN N
   refine AW.cond rfl (fun h2=> ?_) (fun h2=> ?_)
   ·try simp only[cn]at h2
    obtain⟨hf,he,_,_⟩:=gP_some hk2 h2 hn
    have hpt:=impl_presentation_m (trow k).1 (num k) (trow k).2.1 hk2
    refine AW.seq (fun N hN=> ?_)
    refine AW.regionX envOk 1 _ rfl rfl ?_
    simp-dsimp-implicitDefEqProofs (disch:=omega) only[List.take_succ_cons,List.take_zero,List.drop_succ_cons,List.drop_zero,List.take_nil,List.drop_nil,go_sem,undef,w64,arr4,one4t]
    refine XC.callw hcg rfl ?_
    refine ACw.hold hpt (.cons (.refl _) .nil) ?_
    intro m3 H3 r3 hm3 hH3 ho
    obtain⟨r0,P,B,rfl,⟨v1,v2,v3⟩,ho5⟩:=ho.prs
    dsimp only at hm3 hH3 ho5
    have h31:H3 nx=some [.nl,.nl,.nl]:=(hH3 _ (by omega)).trans (by simp(disch:=omega) only[upd_ne,upd_same])
    clear ho hH3
    try simp-dsimp-implicitDefEqProofs (disch:=omega) only[go_sem,undef,w64,v1,v2,v3,Bool.and_true,h31]
    refine hN _ ?_
    try clear hN N
    refine AW.ret ?_
    simp-dsimp-implicitDefEqProofs (disch:=omega) only[go_sem,undef]
    rw[hf,he]
    obtain⟨ids,h1,h2,h3⟩:=ho5
    have hk2:=h1.keep (H':=upd H3 nx (some [r0,P,B])) (fun i hi=>by have:=h3 i hi;rw[upd_ne _ _ (by omega)])
    exact⟨_,Own.pairO ⟨hk2,h2,fun i hi=>by have:=h3 i hi;omega⟩⟩
   ·try simp only[cn]at h2
    refine AW.skip ?_
    simp only[thn,blk]
    refine hN3 _ ?_
    try clear hN3 N3
    refine AW.regionL envOk ?_
    simp-dsimp-implicitDefEqProofs (disch:=omega) only[go_sem,undef,libV,w64,arr4,one4t]
    refine⟨k+1,?_,by intro d cs hd;simp only[upd,noH]at hd ⊢;grind,?_,?_⟩
    ·simp(disch:=omega) [wks,wkA,sl,w64,ints,rows,cubes,libV,w64,arr4,one4t]<;>omega
    ·first|exact⟨by first|omega|(simp only;omega)|(dsimp only;omega),by first|omega|(simp only;omega)|(dsimp only;omega),nx_none hn h2⟩|exact⟨by first|omega|(simp only;omega)|(dsimp only;omega),nx_none hn h2⟩|exact nx_none hn h2
    ·first|omega|(simp only;omega)
  ·try simp only[cn]at h1
   obtain rfl:k=82:=by omega
   obtain⟨hf,he⟩:=gP_none hn
   refine AW.exit ?_
   simp only[thn,blk,if_true]
   refine hN1 _ ?_
   try clear hN1 N1
   refine AW.sr envOk (fun N hN=> ?_)
   simp-dsimp-implicitDefEqProofs (disch:=omega) only[go_sem,undef,libV,w64,arr4,one4t]
   refine hN _ ?_
   try clear hN N
   refine AW.ret ?_
   simp-dsimp-implicitDefEqProofs (disch:=omega) only[go_sem,undef]
   rw[hf,he]
   exact⟨_,Own.pairO ⟨prs_z,by simp,by simp⟩⟩
end Go.Proofs.YthncdadmkppclaaGreatDoor
