import Derived.Test.YtlcddiojeghfgaaGreatDoorZ23
import Derived.Test.YtlcddiojeghfgaaGreatDoorZ26
set_option linter.unusedVariables false
set_option linter.unusedSimpArgs false
namespace Go.Proofs.YtlcddiojeghfgaaGreatDoor
open Nat (reduceAdd reduceSub reduceGT reduceEqDiff reduceMul)
def lvB (b:UInt8):Int:=if b.toNat<97 then 64-(b.toNat:Int)else (b.toNat:Int)-96
def okB (n:Nat) (b:UInt8):Bool:=decide (65≤b.toNat)&& decide (-(n:Int)≤lvB b)&& decide (lvB b≤n)
def rdL (n:Nat) (r:List UInt8):List Int:=if r=[49]then []else if r.all (okB n)=true then r.map lvB else []
def rdB (n:Nat) (r:List UInt8):Bool:=if r=[49]then true else r.all (okB n)&& decide (r≠ [])
theorem all_bad {n:Nat} {r:List UInt8} {k:Nat} (hk:k<r.length) (h:okB n (r.getD k 0)=false):r.all (okB n)=false:=by
  rw[Bool.eq_false_iff]
  intro ha
  rw[List.all_eq_true]at ha
  have:=ha (r.getD k 0) (by simp[hk])
  rw[h]at this;cases this
theorem all_good {n:Nat} {r:List UInt8} (h:∀k,k<r.length→okB n (r.getD k 0)=true):r.all (okB n)=true:=by
  rw[List.all_eq_true]
  intro x hx
  obtain⟨i,hi,rfl⟩:=List.mem_iff_getElem.1 hx
  have:=h i hi
  simpa[hi]using this
theorem rd_bad {n:Nat} {r:List UInt8} (h1:r≠ [49]) (h:r.all (okB n)=false):rdL n r=[]∧rdB n r=false:=by
  rw[rdL,rdB,if_neg h1,if_neg h1,h];exact⟨by simp,by simp⟩
theorem rd_good {n:Nat} {r:List UInt8} (h1:r≠ [49]) (h:r.all (okB n)=true):rdL n r=r.map lvB∧rdB n r=decide (r≠ []):=by
  rw[rdL,rdB,if_neg h1,if_neg h1,h];exact⟨by simp,by simp⟩
theorem own_tb {a b:Nat} {H:HP} {r X:AV} {ids:List Nat} {e:Bool} (h:Own a b H r X ids):∃ids,Own a b H (.t [r,.b e]) (.t [X,.b e]) ids:=
  ⟨ids++([]++[]),.t _ _ _ (.cons _ _ _ _ _ _ h.1 (.cons _ _ _ _ _ _ (.leaf _ (.b _) (.b _)) .nil)),by simpa using h.2.1,by simpa using h.2.2⟩
theorem LC.own {H:HP} {a b:Nat} {L:AV} {xs:List Int} (h:LC H a b L (xs.map (.i .i64))):∃ids,Own a b H L (ints xs) ids:=by
  rcases h with ⟨rfl,e⟩|⟨id,rfl,h0,h1,h2⟩
  · obtain rfl:xs=[]:=List.map_eq_nil_iff.1 e
    exact⟨[],.nl,by simp,by simp⟩
  · exact⟨[id],Own.ints h0 (by simp) h1 h2⟩
set_option maxHeartbeats 4000000 in
theorem impl_readWord_o (n:Nat) (hn:n≤4) (r:List UInt8) (hr:r.length≤1048576):ACo Tryz.prog 20 [.i .i64 n,.s (ofL r)] (.t [ints (rdL n r),.b (rdB n r)]):=by
 intro nx
 refine AC.intro' envOk Tryz.func20 rfl (by kernel_rfl) Tryz.ntmps20 Tryz.results20 (fun cX=> ?_)
 refine AW.sr envOk (fun N hN=> ?_)
 simp-dsimp-implicitDefEqProofs (disch:=(first|omega|((repeat refine LC.upd (by omega) ?_);assumption))) only[go_sem,undef,w64,ofL_sz]
 refine hN _ ?_
 try clear hN N
 refine AW.seq (fun N1 hN1=> ?_)
 refine AW.sr envOk (fun N hN=> ?_)
 simp-dsimp-implicitDefEqProofs (disch:=(first|omega|((repeat refine LC.upd (by omega) ?_);assumption))) only[go_sem,undef,w64,ofL_sz]
 refine hN _ ?_
 try clear hN N
 refine AW.cond rfl (fun h1=> ?_) (fun h1=> ?_)
 ·try simp only[cn]at h1
  have he:r=[49]:=toL_eq.1 (show(ofL r).toList=(⟨#[49]⟩:ByteArray).toList by simpa using h1)
  refine AW.sr envOk (fun N hN=> ?_)
  simp-dsimp-implicitDefEqProofs (disch:=(first|omega|((repeat refine LC.upd (by omega) ?_);assumption))) only[go_sem,undef,w64,ofL_sz]
  refine hN _ ?_
  try clear hN N
  refine AW.ret ?_
  simp-dsimp-implicitDefEqProofs (disch:=(first|omega|((repeat refine LC.upd (by omega) ?_);assumption))) only[go_sem,undef]
  rw[rdL,rdB,if_pos he,if_pos he]
  exact own_tb (X:=ints []) ⟨.nl,by simp,by simp⟩
 ·try simp only[cn]at h1
  have hne:r≠ [49]:=fun e=>h1 (by rw[e];rfl)
  refine AW.skip ?_
  simp only[thn,blk]
  refine hN1 _ ?_
  try clear hN1 N1
  refine AW.sr envOk (fun N hN=> ?_)
  simp-dsimp-implicitDefEqProofs (disch:=(first|omega|((repeat refine LC.upd (by omega) ?_);assumption))) only[go_sem,undef,w64,ofL_sz]
  refine hN _ ?_
  try clear hN N
  refine AW.seq (fun N2 hN2=> ?_)
  refine AW.sr envOk (fun N hN=> ?_)
  simp-dsimp-implicitDefEqProofs (disch:=(first|omega|((repeat refine LC.upd (by omega) ?_);assumption))) only[go_sem,undef,w64,ofL_sz]
  refine hN _ ?_
  try clear hN N
  refine AW.block ?_
  refine AW.loopN (α:=Nat×HP×AV) (fun x=>sl 51 [(0,.i .i64 n),(1,.s (ofL r)),(6,x.2.2),(13,.v r.length (bys (ofL r))),(14,.i .i64 r.length),(15,.i .i64 x.1)]) (fun x=>x.2.1) (fun x m=>x.1≤r.length∧nx≤m∧LC x.2.1 nx m x.2.2 (((r.take x.1).map lvB).map (.i .i64))∧(∀k,k<x.1→okB n (r.getD k 0)=true)) (fun x=>r.length-x.1) ((0,noH,.nl)) ?_ ?_ (fun _ _ h=>h) ?_
  ·exact⟨by simp,by first|omega|(simp only;omega)|(dsimp only;omega),.nil,fun k hk=>by omega⟩
  ·simp(disch:=omega) [wks,wkA,sl]
  ·skip
   rintro⟨k,G,L⟩ m ⟨hk,hm,hL,hgo⟩
   simp-dsimp-implicitDefEqProofs (disch:=(first|omega|((repeat refine LC.upd (by omega) ?_);assumption))) only[go_sem,undef]
   dsimp only at hk hm hL hgo ⊢
   have hLo:=hL.one
   have hLl:=hL.len
   refine AW.sr envOk (fun N hN=> ?_)
   simp-dsimp-implicitDefEqProofs (disch:=(first|omega|((repeat refine LC.upd (by omega) ?_);assumption))) only[go_sem,undef,w64,ofL_sz]
   refine hN _ ?_
   try clear hN N
   refine AW.seq (fun N3 hN3=> ?_)
   refine AW.cond rfl (fun h2=> ?_) (fun h2=> ?_)
   ·try simp only[cn]at h2
    have hkr:k<r.length:=by omega
    have hbk:=bys_at hkr
    have hbl:=bys_ln r
    have hb8:=(r.getD k 0).toNat_lt
    have hcl:(((r.take k).map lvB).map (AV.i .i64)).length=k:=by rw[List.length_map,List.length_map,List.length_take];omega
    have htk:r.take (k+1)=r.take k++[r.getD k 0]:=by
     rw[List.take_succ_eq_append_getElem (by omega)];simp[show k<r.length by omega]
    have hin:=impl_inside_ok (lvB (r.getD k 0)) (0-n) n
    refine AW.skip ?_
    simp only[thn,blk]
    refine hN3 _ ?_
    try clear hN3 N3
    refine AW.seq (fun N4 hN4=> ?_)
    refine AW.block ?_
    refine AW.sr envOk (fun N hN=> ?_)
    simp-dsimp-implicitDefEqProofs (disch:=(first|omega|((repeat refine LC.upd (by omega) ?_);assumption))) only[go_sem,undef,w64,ofL_sz,hbk,hbl,Int.toNat_natCast]
    refine hN _ ?_
    try clear hN N
    refine AW.sr envOk (fun N hN=> ?_)
    simp-dsimp-implicitDefEqProofs (disch:=(first|omega|((repeat refine LC.upd (by omega) ?_);assumption))) only[go_sem,undef,w64,ofL_sz]
    refine hN _ ?_
    try clear hN N
    refine AW.seq (fun N5 hN5=> ?_)
    refine AW.sr envOk (fun N hN=> ?_)
    simp-dsimp-implicitDefEqProofs (disch:=(first|omega|((repeat refine LC.upd (by omega) ?_);assumption))) only[go_sem,undef,w64,ofL_sz]
    refine hN _ ?_
    try clear hN N
    refine AW.cond rfl (fun h3=> ?_) (fun h3=> ?_)
    ·try simp only[cn]at h3
     have ew:(65:Int)-((r.getD k 0).toNat:Int)-1=lvB (r.getD k 0):=by unfold lvB;rw[if_pos (by omega)];omega
     have hlb: -191≤lvB (r.getD k 0)∧lvB (r.getD k 0)≤159:=by unfold lvB;split<;>omega
     refine AW.regionL envOk ?_
     simp-dsimp-implicitDefEqProofs (disch:=(first|omega|((repeat refine LC.upd (by omega) ?_);assumption))) only[go_sem,undef,w64,ofL_sz,ew]
     refine hN5 _ ?_
     try clear hN5 N5
     refine AW.seq (fun N6 hN6=> ?_)
     refine AW.sr envOk (fun N hN=> ?_)
     simp-dsimp-implicitDefEqProofs (disch:=(first|omega|((repeat refine LC.upd (by omega) ?_);assumption))) only[go_sem,undef,w64,ofL_sz,ew]
     refine gopB.mk' (fun h4=> ?_) (fun h4=> ?_)
     ·try simp only[cn]at h4
      have hw1:(lvB (r.getD k 0)==0)=false:=by rw[beq_eq_false_iff_ne];unfold lvB;split<;>omega
      try simp-dsimp-implicitDefEqProofs (disch:=(first|omega|((repeat refine LC.upd (by omega) ?_);assumption))) only[go_sem,undef,w64,hw1,ew]
      try simp-dsimp-implicitDefEqProofs (disch:=(first|omega|((repeat refine LC.upd (by omega) ?_);assumption))) only[go_sem,undef,w64,ofL_sz]
      refine AC.pure (.of (hin)) ?_
      try simp-dsimp-implicitDefEqProofs (disch:=(first|omega|((repeat refine LC.upd (by omega) ?_);assumption))) only[go_sem,undef,w64,Bool.not_true]
      refine hN _ ?_
      try clear hN N
      refine AW.cond rfl (fun h5=> ?_) (fun h5=> ?_)
      ·try simp only[cn]at h5
       have hbd:okB n (r.getD k 0)=false:=by unfold okB;simp only[Bool.and_eq_false_iff,decide_eq_false_iff_not];omega
       obtain⟨q1,q2⟩:=rd_bad hne (all_bad hkr hbd)
       refine AW.sr envOk (fun N hN=> ?_)
       simp-dsimp-implicitDefEqProofs (disch:=(first|omega|((repeat refine LC.upd (by omega) ?_);assumption))) only[go_sem,undef,w64,ofL_sz]
       refine hN _ ?_
       try clear hN N
       refine AW.ret ?_
       simp-dsimp-implicitDefEqProofs (disch:=(first|omega|((repeat refine LC.upd (by omega) ?_);assumption))) only[go_sem,undef]
       rw[q1,q2]
       exact own_tb (X:=ints []) ⟨.nl,by simp,by simp⟩
      ·try simp only[cn]at h5
       have hbd:okB n (r.getD k 0)=true:=by unfold okB;simp only[Bool.and_eq_true,decide_eq_true_eq];omega
       have hgo2:∀q,q<k+1→okB n (r.getD q 0)=true:=fun q hq=>by
        by_cases e:q=k
        ·rw[e];exact hbd
        ·exact hgo q (by omega)
       refine AW.skip ?_
       simp only[thn,blk]
       refine hN6 _ ?_
       try clear hN6 N6
       refine AW.regionL envOk ?_
       simp-dsimp-implicitDefEqProofs (disch:=(first|omega|((repeat refine LC.upd (by omega) ?_);assumption))) only[go_sem,undef,w64,ofL_sz,hLo,hLl,hcl,apst_LC (a:=nx) (b:=m) (L:=L) (cs:=((r.take k).map lvB).map (.i .i64))]
       refine hN4 _ ?_
       try clear hN4 N4
       refine AW.nameH (fun G3 hG3=> ?_)
       dsimp only at hG3
       refine AW.regionL envOk ?_
       simp-dsimp-implicitDefEqProofs (disch:=(first|omega|((repeat refine LC.upd (by omega) ?_);assumption))) only[go_sem,undef,w64,ofL_sz]
       refine⟨(k+1,G3,.h (m+1+3+5+2+5+14+3) 0 (k+1)),?_,fun _ _ h=>h,?_,?_⟩
       ·simp(disch:=omega) [wks,wkA,sl,w64,ints,rows,cubes,w64,ofL_sz]<;>omega
       ·have hmk:LC G3 nx (m+1+3+5+2+5+14+5+2) (.h (m+1+3+5+2+5+14+3) 0 (k+1)) (((r.take (k+1)).map lvB).map (.i .i64)):=LC.mk (by rw[←hG3,htk,List.map_append,List.map_append];simp(disch:=omega) only[upd_same];rfl) (by rw[List.length_map,List.length_map,List.length_take];omega) (by omega) (by omega)
        first|exact⟨by first|omega|(simp only;omega)|(dsimp only;omega),by first|omega|(simp only;omega)|(dsimp only;omega),hmk,hgo2⟩|exact⟨by first|omega|(simp only;omega)|(dsimp only;omega),hmk,hgo2⟩
       ·first|omega|(simp only;omega)
     ·try simp only[cn]at h4
      have hbd:okB n (r.getD k 0)=false:=by unfold okB;simp only[Bool.and_eq_false_iff,decide_eq_false_iff_not];omega
      obtain⟨q1,q2⟩:=rd_bad hne (all_bad hkr hbd)
      try simp-dsimp-implicitDefEqProofs (disch:=(first|omega|((repeat refine LC.upd (by omega) ?_);assumption))) only[go_sem,undef,w64,ofL_sz]
      refine hN _ ?_
      try clear hN N
      refine AW.condT rfl ?_
      refine AW.sr envOk (fun N hN=> ?_)
      simp-dsimp-implicitDefEqProofs (disch:=(first|omega|((repeat refine LC.upd (by omega) ?_);assumption))) only[go_sem,undef,w64,ofL_sz]
      refine hN _ ?_
      try clear hN N
      refine AW.ret ?_
      simp-dsimp-implicitDefEqProofs (disch:=(first|omega|((repeat refine LC.upd (by omega) ?_);assumption))) only[go_sem,undef]
      rw[q1,q2]
      exact own_tb (X:=ints []) ⟨.nl,by simp,by simp⟩
    ·try simp only[cn]at h3
     have ew:((r.getD k 0).toNat:Int)-97+1=lvB (r.getD k 0):=by unfold lvB;rw[if_neg (by omega)];omega
     have hlb: -191≤lvB (r.getD k 0)∧lvB (r.getD k 0)≤159:=by unfold lvB;split<;>omega
     refine AW.skip ?_
     simp only[thn,blk]
     refine hN5 _ ?_
     try clear hN5 N5
     refine AW.seq (fun N7 hN7=> ?_)
     refine AW.sr envOk (fun N hN=> ?_)
     simp-dsimp-implicitDefEqProofs (disch:=(first|omega|((repeat refine LC.upd (by omega) ?_);assumption))) only[go_sem,undef,w64,ofL_sz,ew]
     refine gopB.mk' (fun h6=> ?_) (fun h6=> ?_)
     ·try simp only[cn]at h6
      have hw1:(lvB (r.getD k 0)==0)=false:=by rw[beq_eq_false_iff_ne];unfold lvB;split<;>omega
      try simp-dsimp-implicitDefEqProofs (disch:=(first|omega|((repeat refine LC.upd (by omega) ?_);assumption))) only[go_sem,undef,w64,hw1,ew]
      try simp-dsimp-implicitDefEqProofs (disch:=(first|omega|((repeat refine LC.upd (by omega) ?_);assumption))) only[go_sem,undef,w64,ofL_sz]
      refine AC.pure (.of (hin)) ?_
      try simp-dsimp-implicitDefEqProofs (disch:=(first|omega|((repeat refine LC.upd (by omega) ?_);assumption))) only[go_sem,undef,w64,Bool.not_true]
      refine hN _ ?_
      try clear hN N
      refine AW.cond rfl (fun h7=> ?_) (fun h7=> ?_)
      ·try simp only[cn]at h7
       have hbd:okB n (r.getD k 0)=false:=by unfold okB;simp only[Bool.and_eq_false_iff,decide_eq_false_iff_not];omega
       obtain⟨q1,q2⟩:=rd_bad hne (all_bad hkr hbd)
       refine AW.sr envOk (fun N hN=> ?_)
       simp-dsimp-implicitDefEqProofs (disch:=(first|omega|((repeat refine LC.upd (by omega) ?_);assumption))) only[go_sem,undef,w64,ofL_sz]
       refine hN _ ?_
       try clear hN N
       refine AW.ret ?_
       simp-dsimp-implicitDefEqProofs (disch:=(first|omega|((repeat refine LC.upd (by omega) ?_);assumption))) only[go_sem,undef]
       rw[q1,q2]
       exact own_tb (X:=ints []) ⟨.nl,by simp,by simp⟩
      ·try simp only[cn]at h7
       have hbd:okB n (r.getD k 0)=true:=by unfold okB;simp only[Bool.and_eq_true,decide_eq_true_eq];omega
       have hgo2:∀q,q<k+1→okB n (r.getD q 0)=true:=fun q hq=>by
        by_cases e:q=k
        ·rw[e];exact hbd
        ·exact hgo q (by omega)
       refine AW.skip ?_
       simp only[thn,blk]
       refine hN7 _ ?_
       try clear hN7 N7
       refine AW.regionL envOk ?_
       simp-dsimp-implicitDefEqProofs (disch:=(first|omega|((repeat refine LC.upd (by omega) ?_);assumption))) only[go_sem,undef,w64,ofL_sz,hLo,hLl,hcl,apst_LC (a:=nx) (b:=m) (L:=L) (cs:=((r.take k).map lvB).map (.i .i64))]
       refine hN4 _ ?_
       try clear hN4 N4
       refine AW.nameH (fun G3 hG3=> ?_)
       dsimp only at hG3
       refine AW.regionL envOk ?_
       simp-dsimp-implicitDefEqProofs (disch:=(first|omega|((repeat refine LC.upd (by omega) ?_);assumption))) only[go_sem,undef,w64,ofL_sz]
       refine⟨(k+1,G3,.h (m+1+3+5+2+14+3) 0 (k+1)),?_,fun _ _ h=>h,?_,?_⟩
       ·simp(disch:=omega) [wks,wkA,sl,w64,ints,rows,cubes,w64,ofL_sz]<;>omega
       ·have hmk:LC G3 nx (m+1+3+5+2+14+5+2) (.h (m+1+3+5+2+14+3) 0 (k+1)) (((r.take (k+1)).map lvB).map (.i .i64)):=LC.mk (by rw[←hG3,htk,List.map_append,List.map_append];simp(disch:=omega) only[upd_same];rfl) (by rw[List.length_map,List.length_map,List.length_take];omega) (by omega) (by omega)
        first|exact⟨by first|omega|(simp only;omega)|(dsimp only;omega),by first|omega|(simp only;omega)|(dsimp only;omega),hmk,hgo2⟩|exact⟨by first|omega|(simp only;omega)|(dsimp only;omega),hmk,hgo2⟩
       ·first|omega|(simp only;omega)
     ·try simp only[cn]at h6
      have hbd:okB n (r.getD k 0)=false:=by unfold okB;simp only[Bool.and_eq_false_iff,decide_eq_false_iff_not];omega
      obtain⟨q1,q2⟩:=rd_bad hne (all_bad hkr hbd)
      try simp-dsimp-implicitDefEqProofs (disch:=(first|omega|((repeat refine LC.upd (by omega) ?_);assumption))) only[go_sem,undef,w64,ofL_sz]
      refine hN _ ?_
      try clear hN N
      refine AW.condT rfl ?_
      refine AW.sr envOk (fun N hN=> ?_)
      simp-dsimp-implicitDefEqProofs (disch:=(first|omega|((repeat refine LC.upd (by omega) ?_);assumption))) only[go_sem,undef,w64,ofL_sz]
      refine hN _ ?_
      try clear hN N
      refine AW.ret ?_
      simp-dsimp-implicitDefEqProofs (disch:=(first|omega|((repeat refine LC.upd (by omega) ?_);assumption))) only[go_sem,undef]
      rw[q1,q2]
      exact own_tb (X:=ints []) ⟨.nl,by simp,by simp⟩
   ·try simp only[cn]at h2
    have hke:k=r.length:=by omega
    subst hke
    rw[List.take_length]at hL
    obtain⟨q1,q2⟩:=rd_good hne (all_good hgo)
    have hb:(!((ofL r).toList==(⟨#[]⟩:ByteArray).toList))=decide (r≠ []):=by
     by_cases e:r=[]
     ·subst e;simp[show(ofL []:ByteArray)=⟨#[]⟩from rfl]
     ·have:¬(ofL r).toList=(⟨#[]⟩:ByteArray).toList:=fun h=>e (toL_eq.1 h)
      rw[beq_eq_false_iff_ne.2 this];simp[e]
    refine AW.exit ?_
    simp only[thn,blk,if_true]
    refine hN2 _ ?_
    try clear hN2 N2
    refine AW.sr envOk (fun N hN=> ?_)
    simp-dsimp-implicitDefEqProofs (disch:=(first|omega|((repeat refine LC.upd (by omega) ?_);assumption))) only[go_sem,undef,w64,ofL_sz]
    refine hN _ ?_
    try clear hN N
    refine AW.ret ?_
    simp-dsimp-implicitDefEqProofs (disch:=(first|omega|((repeat refine LC.upd (by omega) ?_);assumption))) only[go_sem,undef]
    rw[q1,q2,hb]
    obtain⟨ids,ho⟩:=hL.own
    exact own_tb (ho.keep (fun _ _ _=>rfl) (Nat.le_refl _) (by omega))
theorem pl1_ok {n:Nat} (hn:n≤4) (b:UInt8):pl1 n (b.toNat:Int)=if okB n b=true then some (lvB b)else none:=by
  have hb:=b.toNat_lt
  unfold pl1 okB lvB
  simp only[Bool.and_eq_true,decide_eq_true_eq]
  by_cases h:b.toNat<97
  · rw[if_pos h]
    by_cases h2:65≤b.toNat∧b.toNat<65+n
    · rw[if_neg (by omega),if_pos (by omega),if_pos (by omega)];congr 1;omega
    · rw[if_neg (by omega),if_neg (by omega),if_neg (by omega)]
  · rw[if_neg h]
    by_cases h2:b.toNat<97+n
    · rw[if_pos (by omega),if_pos (by omega)];congr 1;omega
    · rw[if_neg (by omega),if_neg (by omega),if_neg (by omega)]
theorem byt_L (r:List UInt8) (j:Nat):byt (ofL r) j=((r.getD j 0).toNat:Int):=by
  rw[byt];simp[ofL]
theorem plAll_L {n:Nat} (hn:n≤4) (r:List UInt8):plAll n (ofL r)↔r.all (okB n)=true:=by
  unfold plAll
  rw[ofL_sz]
  constructor
  · intro h
    refine all_good (fun k hk=> ?_)
    have h2:=h k hk
    rw[byt_L,pl1_ok hn]at h2
    by_cases e:okB n (r.getD k 0)=true
    · exact e
    · rw[if_neg e]at h2;exact absurd rfl h2
  · intro h j hj
    rw[List.all_eq_true]at h
    have h2:=h (r.getD j 0) (by simp[hj])
    rw[byt_L,pl1_ok hn,if_pos h2];simp
theorem par_rd {n:Nat} (hn:n≤4) (r:List UInt8):parW n (ofL r)=rdL n r∧parB n (ofL r)=rdB n r:=by
  have h49:(ofL r).toList=(⟨#[49]⟩:ByteArray).toList↔r=[49]:=toL_eq (b:=[49])
  unfold parW parB rdL rdB
  by_cases h:r=[49]
  · rw[if_pos (h49.2 h),if_pos h,if_pos (h49.2 h),if_pos h];exact⟨rfl,rfl⟩
  · rw[if_neg (fun e=>h (h49.1 e)),if_neg h,if_neg (fun e=>h (h49.1 e)),if_neg h]
    by_cases ha:r.all (okB n)=true
    · rw[if_pos ((plAll_L hn r).2 ha),if_pos ha,if_pos ((plAll_L hn r).2 ha),ha,ofL_sz]
      refine⟨?_,?_⟩
      · rw[ltrs]
        apply List.ext_getElem
        · simp
        · intro j h1 h2
          have hj:j<r.length:=by simpa using h1
          rw[List.all_eq_true]at ha
          have h3:=ha (r.getD j 0) (by simp[hj])
          simp only[List.getElem_map,List.getElem_range]
          rw[byt_L,pl1_ok hn,if_pos h3]
          simp[hj]
      · cases r<;>simp
    · rw[if_neg (fun e=>ha ((plAll_L hn r).1 e)),if_neg ha,if_neg (fun e=>ha ((plAll_L hn r).1 e)),Bool.eq_false_iff.2 ha]
      exact⟨rfl,rfl⟩
end Go.Proofs.YtlcddiojeghfgaaGreatDoor
