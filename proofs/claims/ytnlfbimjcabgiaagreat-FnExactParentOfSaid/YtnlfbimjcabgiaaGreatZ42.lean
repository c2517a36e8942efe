import Derived.Test.YtnlfbimjcabgiaaGreatZ36
import Derived.Test.YtnlfbimjcabgiaaGreatZ41
set_option linter.unusedVariables false
set_option linter.unusedSimpArgs false
namespace Go.Proofs.YtnlfbimjcabgiaaGreat
open Nat (reduceAdd reduceSub reduceGT reduceEqDiff reduceMul)
def ixF (y:Int):List Int→Nat→Int
  |[],_=> -1
  |b::l,k=>if b=y then k else ixF y l (k+1)
theorem ixF_iff {y:Int}:∀{l:List Int} {k:Nat},0≤ixF y l k↔y∈l:=by
  intro l
  induction l with
  |nil=>intro k;simp[ixF]
  | cons b l ih=>
    intro k
    rw[ixF]
    by_cases e:b=y
    · rw[if_pos e];simp[e]
    · rw[if_neg e,ih]
      simp[Ne.symm e]
theorem ixF_step {y:Int} {a:List Int} {k:Nat} (h:k<a.length):ixF y (a.drop k) k=if a.getD k 0=y then (k:Int)else ixF y (a.drop (k+1)) (k+1):=by
  rw[List.drop_eq_getElem_cons h,ixF]
  simp[h]
theorem slices_Index_int_ok (a:List Int) (y:Int) (ha:a.length≤1099511627776):ACp Tryz.prog 150 [ints a,.i .i64 y] (.i .i64 (ixF y a 0)):=by
 refine ACp.intro' envOk Tryz.func150 rfl (by kernel_rfl) Tryz.ntmps150 Tryz.results150 (.i _ _) (fun nx=> ?_)
 refine AW.sr envOk (fun N hN=> ?_)
 simp-dsimp-implicitDefEqProofs (maxSteps:=800000) (disch:=omega) only[go_sem,undef,ints,gd_i,w64]
 refine hN _ ?_
 try clear hN N
 refine AW.seq (fun N1 hN1=> ?_)
 refine AW.sr envOk (fun N hN=> ?_)
 simp-dsimp-implicitDefEqProofs (maxSteps:=800000) (disch:=omega) only[go_sem,undef,ints,gd_i,w64]
 refine hN _ ?_
 try clear hN N
 refine AW.block ?_
 refine AW.loopN (α:=Nat) (fun x=>sl 19 [(0,ints a),(1,.i .i64 y),(7,.i .i64 a.length),(8,.i .i64 x)]) (fun _=>noH) (fun x m=>x≤a.length∧ixF y a 0=ixF y (a.drop x) x) (fun x=>a.length-x) (0) ?_ ?_ (fun _ _ h=>h) ?_
 ·exact⟨by omega,rfl⟩
 ·simp(disch:=omega) [wks,wkA,sl,w64,ints,rows,cubes,ints,gd_i,w64]<;>omega
 ·skip
  rintro k m ⟨hk,hI⟩
  simp-dsimp-implicitDefEqProofs (maxSteps:=800000) (disch:=omega) only[go_sem,undef]
  refine AW.sr envOk (fun N hN=> ?_)
  simp-dsimp-implicitDefEqProofs (maxSteps:=800000) (disch:=omega) only[go_sem,undef,ints,gd_i,w64]
  refine hN _ ?_
  try clear hN N
  refine AW.seq (fun N2 hN2=> ?_)
  refine AW.cond rfl (fun h1=> ?_) (fun h1=> ?_)
  ·try simp only[cn]at h1
   have hs:=ixF_step (y:=y) (show k<a.length by omega)
   refine AW.skip ?_
   simp only[thn,blk]
   refine hN2 _ ?_
   try clear hN2 N2
   refine AW.seq (fun N3 hN3=> ?_)
   refine AW.block ?_
   refine AW.sr envOk (fun N hN=> ?_)
   simp-dsimp-implicitDefEqProofs (maxSteps:=800000) (disch:=omega) only[go_sem,undef,ints,gd_i,w64]
   refine hN _ ?_
   try clear hN N
   refine AW.sr envOk (fun N hN=> ?_)
   simp-dsimp-implicitDefEqProofs (maxSteps:=800000) (disch:=omega) only[go_sem,undef,ints,gd_i,w64]
   refine hN _ ?_
   try clear hN N
   refine AW.cond rfl (fun h2=> ?_) (fun h2=> ?_)
   ·try simp only[cn]at h2
    refine AW.sr envOk (fun N hN=> ?_)
    simp-dsimp-implicitDefEqProofs (maxSteps:=800000) (disch:=omega) only[go_sem,undef,ints,gd_i,w64]
    refine hN _ ?_
    try clear hN N
    refine AW.ret ?_
    simp-dsimp-implicitDefEqProofs (maxSteps:=800000) (disch:=omega) only[go_sem,undef]
    rw[hI,hs,if_pos (by omega)]
   ·try simp only[cn]at h2
    refine AW.skip ?_
    simp only[thn,blk]
    refine hN3 _ ?_
    try clear hN3 N3
    refine AW.regionL envOk ?_
    simp-dsimp-implicitDefEqProofs (maxSteps:=800000) (disch:=omega) only[go_sem,undef,ints,gd_i,w64]
    refine⟨k+1,?_,fun _ _ h=>h,?_,?_⟩
    ·simp(disch:=omega) [wks,wkA,sl,w64,ints,rows,cubes,ints,gd_i,w64]<;>omega
    ·exact⟨by omega,by rw[hI,hs,if_neg (by omega)]⟩
    ·first|omega|(simp only;omega)
  ·try simp only[cn]at h1
   refine AW.exit ?_
   simp only[thn,blk,if_true]
   refine hN1 _ ?_
   try clear hN1 N1
   refine AW.sr envOk (fun N hN=> ?_)
   simp-dsimp-implicitDefEqProofs (maxSteps:=800000) (disch:=omega) only[go_sem,undef,ints,gd_i,w64]
   refine hN _ ?_
   try clear hN N
   refine AW.ret ?_
   simp-dsimp-implicitDefEqProofs (maxSteps:=800000) (disch:=omega) only[go_sem,undef]
   rw[hI,List.drop_eq_nil_of_le (by omega)];rfl
theorem slices_Contains_int_ok (a:List Int) (y:Int) (ha:a.length≤1099511627776):ACp Tryz.prog 125 [ints a,.i .i64 y] (.b (tf (y∈a))):=by
 refine ACp.intro' envOk Tryz.func125 rfl (by kernel_rfl) Tryz.ntmps125 Tryz.results125 (.b _) (fun nx=> ?_)
 refine AW.sr envOk (fun N hN=> ?_)
 simp-dsimp-implicitDefEqProofs (maxSteps:=800000) (disch:=omega) only[go_sem,undef,w64]
 refine hN _ ?_
 try clear hN N
 refine AW.sr envOk (fun N hN=> ?_)
 simp-dsimp-implicitDefEqProofs (maxSteps:=800000) (disch:=omega) only[go_sem,undef,w64]
 refine AC.pure (.of (slices_Index_int_ok a y ha)) ?_
 try simp-dsimp-implicitDefEqProofs (maxSteps:=800000) (disch:=omega) only[go_sem,undef,w64]
 refine hN _ ?_
 try clear hN N
 refine AW.ret ?_
 simp-dsimp-implicitDefEqProofs (maxSteps:=800000) (disch:=omega) only[go_sem,undef]
 by_cases hm:y∈a
 ·rw[tf_t hm];exact bt (decide_eq_true (ixF_iff.2 hm))
 ·rw[tf_f hm];exact bt (decide_eq_false fun h=>hm (ixF_iff.1 h))
theorem frS {n:Nat} {u:List V} {k:Nat} (h:tbA n u k=none):List.map (fun d:Nat=>AV.i .i64 (d:Int)) (frU n u k)++[AV.i .i64 (k:Int)]=List.map (fun d:Nat=>AV.i .i64 (d:Int)) (frU n u (k+1)):=by
  rw[frU_s,if_pos h,List.map_append];rfl
theorem dpv_iff {n:Nat} {u:List V} {k:Nat}:(k:Int)∈dpv n u↔tbA n u k≠none:=by
  unfold dpv
  constructor
  · intro h
    obtain⟨b,hb,e⟩:=List.mem_map.1 h
    obtain⟨i,hi,e2⟩:=List.getElem_of_mem hb
    refine tbU_not u.length (Nat.le_refl _) ⟨i,hi,?_⟩
    rw[List.getD_eq_getElem?_getD,List.getElem?_eq_getElem hi]
    show ldV n u[i]=k
    rw[e2];omega
  · intro h
    cases hz:tbA n u k with
    |none=>exact absurd hz h
    | some z=>
      obtain⟨h1,h2⟩:=tbU_some u.length (Nat.le_refl _) hz
      exact List.mem_map.2 ⟨z,h1,by rw[h2]⟩
section
variable (os:List Int) (pw:List (List Int)) (cj:List (List (List Int)))
theorem impl_otherIndices_v (hn:os.length≤6) (us:List V) (hl:us.length≤1000) (hu:∀k,k<us.length→ldV os.length (us.getD k z0)<os.length):ACp Tryz.prog 82 [prsP os pw cj,vls os.length us] (ints (frI os.length us)):=by
 have hpv:=impl_pivots_v os.length hn us (by omega) hu
 have hdl:=dpv_len (n:=os.length) (us:=us)
 refine ACp.introV envOk Tryz.func82 rfl (by kernel_rfl) Tryz.ntmps82 Tryz.results82 ((ints_nr _)) (fun nx=> ?_)
 refine AW.sr envOk (fun N hN=> ?_)
 simp-dsimp-implicitDefEqProofs (maxSteps:=800000) (disch:=omega) only[go_sem,undef,prsP,ints,w64]
 refine hN _ ?_
 try clear hN N
 refine AW.sr envOk (fun N hN=> ?_)
 simp-dsimp-implicitDefEqProofs (maxSteps:=800000) (disch:=omega) only[go_sem,undef,prsP,ints,w64]
 refine AC.pure (.of (hpv)) ?_
 try simp-dsimp-implicitDefEqProofs (maxSteps:=800000) (disch:=omega) only[go_sem,undef,prsP,ints,w64]
 refine hN _ ?_
 try clear hN N
 refine AW.sr envOk (fun N hN=> ?_)
 simp-dsimp-implicitDefEqProofs (maxSteps:=800000) (disch:=omega) only[go_sem,undef,prsP,ints,w64]
 refine hN _ ?_
 try clear hN N
 refine AW.seq (fun N1 hN1=> ?_)
 refine AW.sr envOk (fun N hN=> ?_)
 simp-dsimp-implicitDefEqProofs (maxSteps:=800000) (disch:=omega) only[go_sem,undef,prsP,ints,w64]
 refine hN _ ?_
 try clear hN N
 refine AW.block ?_
 refine AW.loopN (α:=Nat×Option Nat) (fun x=>sl 28 [(5,ints (dpv os.length us)),(6,oA x.2 (frU os.length us x.1).length),(14,.i .i64 os.length),(15,.i .i64 x.1)]) (fun x=>oH noH x.2 (List.map (fun d:Nat=>AV.i .i64 (d:Int)) (frU os.length us x.1))) (fun x m=>(x.1≤os.length∧nx≤m)∧(x.2=none→frU os.length us x.1=[])∧(∀id,x.2=some id→nx≤id∧id<m)) (fun x=>os.length-x.1) ((0,none)) ?_ ?_ (fun _ _ h=>h) ?_
 ·exact⟨⟨by simp,by first|omega|(simp only;omega)|(dsimp only;omega)⟩,fun _=>rfl,by simp⟩
 ·simp[wks,wkA,sl,prsP,ints,rows,cubes,oA]
 ·skip
  rintro⟨k,(_|id)⟩ m ⟨⟨hk,hm⟩,h0,hid⟩
  ·skip
   simp-dsimp-implicitDefEqProofs (maxSteps:=800000) (disch:=omega) only[go_sem,undef]
   dsimp only[oA,oH]at hk hm h0 hid ⊢
   have hf0:=h0 rfl
   refine AW.sr envOk (fun N hN=> ?_)
   simp-dsimp-implicitDefEqProofs (maxSteps:=800000) (disch:=omega) only[go_sem,undef,prsP,ints,w64]
   refine hN _ ?_
   try clear hN N
   refine AW.seq (fun N2 hN2=> ?_)
   refine AW.cond rfl (fun h1=> ?_) (fun h1=> ?_)
   ·try simp only[cn]at h1
    have hco:=slices_Contains_int_ok (dpv os.length us) (k:Int) (by omega)
    refine AW.skip ?_
    simp only[thn,blk]
    refine hN2 _ ?_
    try clear hN2 N2
    refine AW.seq (fun N3 hN3=> ?_)
    refine AW.block ?_
    refine AW.sr envOk (fun N hN=> ?_)
    simp-dsimp-implicitDefEqProofs (maxSteps:=800000) (disch:=omega) only[go_sem,undef,prsP,ints,w64]
    refine hN _ ?_
    try clear hN N
    refine AW.sr envOk (fun N hN=> ?_)
    simp-dsimp-implicitDefEqProofs (maxSteps:=800000) (disch:=omega) only[go_sem,undef,prsP,ints,w64]
    refine AC.pure (.of (hco)) ?_
    try simp-dsimp-implicitDefEqProofs (maxSteps:=800000) (disch:=omega) only[go_sem,undef,prsP,ints,w64]
    refine hN _ ?_
    try clear hN N
    refine AW.cond rfl (fun h2=> ?_) (fun h2=> ?_)
    ·try simp only[cn]at h2
     have hz:tbA os.length us k=none:=Classical.byContradiction fun q=>h2 (dpv_iff.2 q)
     have hfs:(frU os.length us (k+1)).length=1:=by rw[frU_s,if_pos hz,hf0];rfl
     refine AW.regionL envOk ?_
     simp-dsimp-implicitDefEqProofs (maxSteps:=800000) (disch:=omega) only[go_sem,undef,prsP,ints,w64]
     refine hN3 _ ?_
     try clear hN3 N3
     refine AW.regionL envOk ?_
     simp-dsimp-implicitDefEqProofs (maxSteps:=800000) (disch:=omega) only[go_sem,undef,prsP,ints,w64]
     refine⟨(k+1,some (m+1+2+4+3)),?_,by rw[←frS hz,hf0];intro d cs hd;simp only[oH,upd,noH,List.map_nil,List.nil_append]at hd ⊢;grind,?_,?_⟩
     ·simp(disch:=omega) [wks,wkA,sl,prsP,ints,rows,cubes,oA,w64,hfs]<;>omega
     ·exact⟨⟨by first|omega|(simp only;omega)|(dsimp only;omega),by first|omega|(simp only;omega)|(dsimp only;omega)⟩,by simp,by simp;omega⟩
     ·first|omega|(simp only;omega)
    ·try simp only[cn]at h2
     have hfs:frU os.length us (k+1)=[]:=by rw[frU_s,if_neg (fun q=>dpv_iff.1 (by simpa using h2) q),hf0]
     refine AW.skip ?_
     simp only[thn,blk]
     refine hN3 _ ?_
     try clear hN3 N3
     refine AW.regionL envOk ?_
     simp-dsimp-implicitDefEqProofs (maxSteps:=800000) (disch:=omega) only[go_sem,undef,prsP,ints,w64]
     refine⟨(k+1,none),?_,fun _ _ h=>h,?_,?_⟩
     ·simp(disch:=omega) [wks,wkA,sl,prsP,ints,rows,cubes,oA,w64,hfs]<;>omega
     ·exact⟨⟨by first|omega|(simp only;omega)|(dsimp only;omega),by first|omega|(simp only;omega)|(dsimp only;omega)⟩,fun _=>hfs,by simp⟩
     ·first|omega|(simp only;omega)
   ·try simp only[cn]at h1
    refine AW.exit ?_
    simp only[thn,blk,if_true]
    refine hN1 _ ?_
    try clear hN1 N1
    refine AW.sr envOk (fun N hN=> ?_)
    simp-dsimp-implicitDefEqProofs (maxSteps:=800000) (disch:=omega) only[go_sem,undef,prsP,ints,w64]
    refine hN _ ?_
    try clear hN N
    refine AW.ret ?_
    simp-dsimp-implicitDefEqProofs (maxSteps:=800000) (disch:=omega) only[go_sem,undef]
    have hke:k=os.length:=by omega
    subst hke
    rw[frI,hf0]
    exact .nl
  ·skip
   simp-dsimp-implicitDefEqProofs (maxSteps:=800000) (disch:=omega) only[go_sem,undef]
   dsimp only[oA,oH]at hk hm h0 hid ⊢
   have hidm:=hid id rfl
   have hfl:=frU_len (n:=os.length) (u:=us) k
   refine AW.sr envOk (fun N hN=> ?_)
   simp-dsimp-implicitDefEqProofs (maxSteps:=800000) (disch:=omega) only[go_sem,undef,prsP,ints,w64]
   refine hN _ ?_
   try clear hN N
   refine AW.seq (fun N4 hN4=> ?_)
   refine AW.cond rfl (fun h3=> ?_) (fun h3=> ?_)
   ·try simp only[cn]at h3
    have hco:=slices_Contains_int_ok (dpv os.length us) (k:Int) (by omega)
    refine AW.skip ?_
    simp only[thn,blk]
    refine hN4 _ ?_
    try clear hN4 N4
    refine AW.seq (fun N5 hN5=> ?_)
    refine AW.block ?_
    refine AW.sr envOk (fun N hN=> ?_)
    simp-dsimp-implicitDefEqProofs (maxSteps:=800000) (disch:=omega) only[go_sem,undef,prsP,ints,w64]
    refine hN _ ?_
    try clear hN N
    refine AW.sr envOk (fun N hN=> ?_)
    simp-dsimp-implicitDefEqProofs (maxSteps:=800000) (disch:=omega) only[go_sem,undef,prsP,ints,w64]
    refine AC.pure (.of (hco)) ?_
    try simp-dsimp-implicitDefEqProofs (maxSteps:=800000) (disch:=omega) only[go_sem,undef,prsP,ints,w64]
    refine hN _ ?_
    try clear hN N
    refine AW.cond rfl (fun h4=> ?_) (fun h4=> ?_)
    ·try simp only[cn]at h4
     have hz:tbA os.length us k=none:=Classical.byContradiction fun q=>h4 (dpv_iff.2 q)
     have hfs:(frU os.length us (k+1)).length=(frU os.length us k).length+1:=by rw[frU_s,if_pos hz];simp
     refine AW.regionL envOk ?_
     simp-dsimp-implicitDefEqProofs (maxSteps:=800000) (disch:=omega) only[go_sem,undef,prsP,ints,w64]
     refine hN5 _ ?_
     try clear hN5 N5
     refine AW.regionL envOk ?_
     simp-dsimp-implicitDefEqProofs (maxSteps:=800000) (disch:=omega) only[go_sem,undef,prsP,ints,w64]
     refine⟨(k+1,some (m+1+2+4+3)),?_,by rw[←frS hz];intro d cs hd;simp only[oH,upd,noH,tk_map]at hd ⊢;grind,?_,?_⟩
     ·simp(disch:=omega) [wks,wkA,sl,prsP,ints,rows,cubes,oA,w64,hfs]<;>omega
     ·exact⟨⟨by first|omega|(simp only;omega)|(dsimp only;omega),by first|omega|(simp only;omega)|(dsimp only;omega)⟩,by simp,by simp;omega⟩
     ·first|omega|(simp only;omega)
    ·try simp only[cn]at h4
     have hfs:frU os.length us (k+1)=frU os.length us k:=by rw[frU_s,if_neg (fun q=>dpv_iff.1 (by simpa using h4) q)]
     refine AW.skip ?_
     simp only[thn,blk]
     refine hN5 _ ?_
     try clear hN5 N5
     refine AW.regionL envOk ?_
     simp-dsimp-implicitDefEqProofs (maxSteps:=800000) (disch:=omega) only[go_sem,undef,prsP,ints,w64]
     refine⟨(k+1,some id),?_,by dsimp only[oH];rw[hfs];exact Le.refl _,?_,?_⟩
     ·simp(disch:=omega) [wks,wkA,sl,prsP,ints,rows,cubes,oA,w64,hfs]<;>omega
     ·exact⟨⟨by first|omega|(simp only;omega)|(dsimp only;omega),by first|omega|(simp only;omega)|(dsimp only;omega)⟩,by simp,by simp;omega⟩
     ·first|omega|(simp only;omega)
   ·try simp only[cn]at h3
    refine AW.exit ?_
    simp only[thn,blk,if_true]
    refine hN1 _ ?_
    try clear hN1 N1
    refine AW.sr envOk (fun N hN=> ?_)
    simp-dsimp-implicitDefEqProofs (maxSteps:=800000) (disch:=omega) only[go_sem,undef,prsP,ints,w64]
    refine hN _ ?_
    try clear hN N
    refine AW.ret ?_
    simp-dsimp-implicitDefEqProofs (maxSteps:=800000) (disch:=omega) only[go_sem,undef]
    have hke:k=os.length:=by omega
    subst hke
    refine vw_ints ?_ (by rw[frI_len])
    rw[upd_same,frI,List.map_map];rfl
set_option maxHeartbeats 1000000 in
theorem impl_project_ok (h:presOk os pw cj) (hc:Con (pc os pw cj) 0) {S:V→Prop} (us:List V) (hcn:Cnl (pc os pw cj) S us) (a:V) (ha:T (pc os pw cj) 0 a):ACo Tryz.prog 84 [prsP os pw cj,vls os.length us,vi os.length a] (ints (pjL (pc os pw cj) us a)):=by
 have hn6:=h.1.1
 have hv:=h.val
 have hln:=hcn.len
 have hn0:(pc os pw cj).n=os.length:=rfl
 rw[hn0]at hln
 have hmem:∀k,k<us.length→us.getD k z0∈us:=fun k hk=>by rw[List.getD_eq_getElem?_getD,List.getElem?_eq_getElem hk];exact List.getElem_mem _
 have hat:=fun k hk=>hcn.at (hmem k hk)
 have hld:∀k,k<us.length→ldV os.length (us.getD k z0)<os.length:=fun k hk=>(hat k hk).1
 have hfl:=frU_len (n:=os.length) (u:=us) os.length
 have hfi:=frI_len (n:=os.length) (u:=us)
 intro nx
 refine AC.intro' envOk Tryz.func84 rfl (by kernel_rfl) Tryz.ntmps84 Tryz.results84 ?_
 refine AW.sr envOk (fun N hN=> ?_)
 simp-dsimp-implicitDefEqProofs (maxSteps:=800000) (disch:=omega) only[go_sem,undef,prsP,vls,w64,ints,gd_i,vi]
 refine hN _ ?_
 try clear hN N
 refine AW.sr envOk (fun N hN=> ?_)
 simp-dsimp-implicitDefEqProofs (maxSteps:=800000) (disch:=omega) only[go_sem,undef,prsP,vls,w64,ints,gd_i,vi]
 refine AC.pure (.of ((impl_representative_ok os pw cj h hc us (by omega) hat a ha).pure)) ?_
 try simp-dsimp-implicitDefEqProofs (maxSteps:=800000) (disch:=omega) only[go_sem,undef,prsP,vls,w64,ints,gd_i,vi]
 refine hN _ ?_
 try clear hN N
 refine AW.sr envOk (fun N hN=> ?_)
 simp-dsimp-implicitDefEqProofs (maxSteps:=800000) (disch:=omega) only[go_sem,undef,prsP,vls,w64,ints,gd_i,vi]
 refine hN _ ?_
 try clear hN N
 refine AW.seq (fun N1 hN1=> ?_)
 refine AW.sr envOk (fun N hN=> ?_)
 simp-dsimp-implicitDefEqProofs (maxSteps:=800000) (disch:=omega) only[go_sem,undef,prsP,vls,w64,ints,gd_i,vi]
 refine AC.pure (.of (impl_otherIndices_v os pw cj hn6 us (by omega) hld)) ?_
 try simp-dsimp-implicitDefEqProofs (maxSteps:=800000) (disch:=omega) only[go_sem,undef,prsP,vls,w64,ints,gd_i,vi]
 refine hN _ ?_
 try clear hN N
 refine AW.block ?_
 refine AW.loopN (α:=Nat×Nat) (fun x=>sl 33 [(7,vi os.length (rdl (pc os pw cj) us a)),(8,.h x.2 0 x.1),(18,ints (frI os.length us)),(19,.i .i64 (frU os.length us os.length).length),(20,.i .i64 x.1)]) (fun x=>upd noH x.2 (some (((pjL (pc os pw cj) us a).take x.1).map (.i .i64)))) (fun x m=>x.1≤(frU os.length us os.length).length∧nx≤x.2∧x.2<m) (fun x=>(frU os.length us os.length).length-x.1) ((0,nx+1+5)) ?_ ?_ (by intro d cs hd;simp only[upd,noH,List.take_zero,List.map_nil]at hd ⊢;grind) ?_
 ·exact⟨by simp,by first|omega|(simp only;omega)|(dsimp only;omega),by first|omega|(simp only;omega)|(dsimp only;omega)⟩
 ·simp(disch:=omega) [wks,wkA,sl,prsP,ints,rows,cubes,vi,frI]
 ·skip
  rintro⟨k,id⟩ m ⟨hk,hid,hm⟩
  dsimp only at hk hid hm ⊢
  have hpl:(pjL (pc os pw cj) us a).length=(frU os.length us os.length).length:=pjL_len
  have htl:((pjL (pc os pw cj) us a).take k).length=k:=by rw[List.length_take,hpl];omega
  have hmn:(k≤min k (pjL (pc os pw cj) us a).length)=True:=eq_true (by rw[hpl];omega)
  have htk:List.take k (List.map (AV.i .i64) (List.take k (pjL (pc os pw cj) us a)))=List.map (AV.i .i64) (List.take k (pjL (pc os pw cj) us a)):=List.take_of_length_le (by rw[List.length_map,htl];exact Nat.le_refl _)
  simp only[ints,vi]
  simp-dsimp-implicitDefEqProofs (maxSteps:=800000) (disch:=omega) only[go_sem,undef]
  refine AW.sr envOk (fun N hN=> ?_)
  simp-dsimp-implicitDefEqProofs (maxSteps:=800000) (disch:=omega) only[go_sem,undef,prsP,vls,w64,ints,gd_i,vi]
  refine hN _ ?_
  try clear hN N
  refine AW.seq (fun N2 hN2=> ?_)
  refine AW.cond rfl (fun h1=> ?_) (fun h1=> ?_)
  ·try simp only[cn]at h1
   obtain⟨d,hd⟩:∃d,(frU os.length us os.length).getD k 0=d:=⟨_,rfl⟩
   have hdl:=frU_lt (n:=os.length) (u:=us) (k:=os.length) (i:=k) (by omega)
   have hfg:=frI_get (n:=os.length) (u:=us) (i:=k) (by omega)
   rw[hd]at hdl hfg
   have hpg:((pjL (pc os pw cj) us a).take (k+1)).map (AV.i .i64)=((pjL (pc os pw cj) us a).take k).map (AV.i .i64)++[.i .i64 (rdl (pc os pw cj) us a d)]:=by
    rw[List.take_add_one,List.map_append]
    congr 1
    have hkl:k<(frU os.length us os.length).length:=by omega
    have hd2:(frU os.length us os.length)[k]=d:=by rw[←hd];simp[hkl]
    simp[pjL,hn0,hkl,hd2]
   refine AW.skip ?_
   simp only[thn,blk]
   refine hN2 _ ?_
   try clear hN2 N2
   refine AW.seq (fun N3 hN3=> ?_)
   refine AW.block ?_
   refine AW.sr envOk (fun N hN=> ?_)
   simp-dsimp-implicitDefEqProofs (maxSteps:=800000) (disch:=omega) only[go_sem,undef,prsP,vls,w64,ints,gd_i,vi,hfg]
   refine hN _ ?_
   try clear hN N
   refine AW.regionL envOk ?_
   simp-dsimp-implicitDefEqProofs (maxSteps:=800000) (disch:=omega) only[go_sem,undef,prsP,vls,w64,ints,gd_i,vi,hmn,htk]
   refine hN3 _ ?_
   try clear hN3 N3
   refine AW.regionL envOk ?_
   simp-dsimp-implicitDefEqProofs (maxSteps:=800000) (disch:=omega) only[go_sem,undef,prsP,vls,w64,ints,gd_i,vi]
   refine⟨(k+1,m+1+3+6),?_,by rw[hpg];intro d cs hd;simp only[upd,noH]at hd ⊢;grind,?_,?_⟩
   ·simp(disch:=omega) [wks,wkA,sl,w64,ints,rows,cubes,prsP,vls,w64,ints,gd_i,vi]<;>omega
   ·exact⟨by first|omega|(simp only;omega)|(dsimp only;omega),by first|omega|(simp only;omega)|(dsimp only;omega),by first|omega|(simp only;omega)|(dsimp only;omega)⟩
   ·first|omega|(simp only;omega)
  ·try simp only[cn]at h1
   refine AW.exit ?_
   simp only[thn,blk,if_true]
   refine hN1 _ ?_
   try clear hN1 N1
   refine AW.sr envOk (fun N hN=> ?_)
   simp-dsimp-implicitDefEqProofs (maxSteps:=800000) (disch:=omega) only[go_sem,undef,prsP,vls,w64,ints,gd_i,vi]
   refine hN _ ?_
   try clear hN N
   refine AW.ret ?_
   simp-dsimp-implicitDefEqProofs (maxSteps:=800000) (disch:=omega) only[go_sem,undef]
   obtain rfl:k=(frU os.length us os.length).length:=by omega
   rw[List.take_of_length_le (by rw[hpl];exact Nat.le_refl _)]
   exact⟨[id],Own.ints (upd_same _ _ _) hpl.symm (by omega) (by omega)⟩
end
end Go.Proofs.YtnlfbimjcabgiaaGreat
namespace Go.Proofs.YtnlfbimjcabgiaaGreat
structure QsR (a m:Nat) (H:HP) (x y z:Nat) (xs ys zs:List AV) (oL pL cL:List AV):Prop where
  hx:H x=some xs
  hy:H y=some ys
  hz:H z=some zs
  ex:∃i1 i2 i3,OwL H xs oL i1∧OwL H ys pL i2∧OwL H zs cL i3∧(x::y::z::(i1++(i2++i3))).Nodup∧∀i∈x::y::z::(i1++(i2++i3)),a≤i∧i<m
theorem QsR.bd {a m:Nat} {H:HP} {x y z:Nat} {xs ys zs oL pL cL:List AV} (h:QsR a m H x y z xs ys zs oL pL cL):(a≤x∧x<m)∧(a≤y∧y<m)∧(a≤z∧z<m)∧x≠y∧x≠z∧y≠z:=by
  obtain⟨i1,i2,i3,h1,h2,h3,h4,h5⟩:=h.ex
  refine⟨h5 x (by simp),h5 y (by simp),h5 z (by simp),?_⟩
  simp only[List.nodup_cons,List.mem_cons,not_or]at h4
  exact⟨h4.1.1,h4.1.2.1,h4.2.1.1⟩
theorem QsR.len {a m:Nat} {H:HP} {x y z:Nat} {xs ys zs oL pL cL:List AV} (h:QsR a m H x y z xs ys zs oL pL cL):xs.length=oL.length∧ys.length=pL.length∧zs.length=cL.length:=by
  obtain⟨i1,i2,i3,h1,h2,h3,h4,h5⟩:=h.ex
  exact⟨h1.len.symm,h2.len.symm,h3.len.symm⟩
theorem QsR.next {a m m':Nat} {H H':HP} {x y z x' y' z':Nat} {xs ys zs oL pL cL:List AV} {v:Int} {r1 X1 L XL:AV} {ids1 idsL:List Nat} (h:QsR a m H x y z xs ys zs oL pL cL)
    (ho:Ow H' r1 X1 ids1) (hL:Ow H' L XL idsL) (hnd:(x'::y'::z'::(ids1++idsL)).Nodup) (hb:∀i∈x'::y'::z'::(ids1++idsL),m≤i∧i<m') (hm:m≤m') (ham:a≤m)
    (hx:H' x'=some (xs++[.i .i64 v])) (hy:H' y'=some (ys++[r1])) (hz:H' z'=some (zs++[L])) (hk:∀i,a≤i→i<m→i≠x→i≠y→i≠z→H' i=H i):
    QsR a m' H' x' y' z' (xs++[.i .i64 v]) (ys++[r1]) (zs++[L]) (oL++[.i .i64 v]) (pL++[X1]) (cL++[XL]):=by
  obtain⟨i1,i2,i3,h1,h2,h3,h4,h5⟩:=h.ex
  simp only[List.nodup_cons,List.mem_cons,List.mem_append,not_or,List.nodup_append]at h4 hnd
  simp only[List.mem_cons,List.mem_append]at h5 hb
  have k1:∀i∈i1,H' i=H i:=fun i hi=>by have:=h5 i (by simp[hi]);exact hk i (by omega) (by omega) (fun e=>h4.1.2.2.1 (e▸hi)) (fun e=>h4.2.1.2.1 (e▸hi)) (fun e=>h4.2.2.1.1 (e▸hi))
  have k2:∀i∈i2,H' i=H i:=fun i hi=>by have:=h5 i (by simp[hi]);exact hk i (by omega) (by omega) (fun e=>h4.1.2.2.2.1 (e▸hi)) (fun e=>h4.2.1.2.2.1 (e▸hi)) (fun e=>h4.2.2.1.2.1 (e▸hi))
  have k3:∀i∈i3,H' i=H i:=fun i hi=>by have:=h5 i (by simp[hi]);exact hk i (by omega) (by omega) (fun e=>h4.1.2.2.2.2 (e▸hi)) (fun e=>h4.2.1.2.2.2 (e▸hi)) (fun e=>h4.2.2.1.2.2 (e▸hi))
  refine⟨hx,hy,hz,i1++([]++[]),i2++(ids1++[]),i3++(idsL++[]),OwL.append (h1.keep k1) (.cons _ _ _ _ _ _ (.leaf _ (.i _ _) (.i _ _)) .nil),OwL.append (h2.keep k2) (.cons _ _ _ _ _ _ ho .nil),OwL.append (h3.keep k3) (.cons _ _ _ _ _ _ hL .nil),?_,?_⟩
  · simp only[List.append_nil,List.nodup_cons,List.mem_cons,List.mem_append,not_or,List.nodup_append]
    have o1:∀i∈i1,i<m:=fun i hi=>(h5 i (by simp[hi])).2
    have o2:∀i∈i2,i<m:=fun i hi=>(h5 i (by simp[hi])).2
    have o3:∀i∈i3,i<m:=fun i hi=>(h5 i (by simp[hi])).2
    have n1:∀i∈ids1,m≤i:=fun i hi=>(hb i (by simp[hi])).1
    have n2:∀i∈idsL,m≤i:=fun i hi=>(hb i (by simp[hi])).1
    have nx:=(hb x' (by simp)).1
    have ny:=(hb y' (by simp)).1
    have nz:=(hb z' (by simp)).1
    grind
  · intro i hi
    simp only[List.append_nil,List.mem_cons,List.mem_append]at hi
    grind
theorem QsR.first {a m m':Nat} {H':HP} {x' y' z':Nat} {v:Int} {r1 X1 L XL:AV} {ids1 idsL:List Nat}
    (ho:Ow H' r1 X1 ids1) (hL:Ow H' L XL idsL) (hnd:(x'::y'::z'::(ids1++idsL)).Nodup) (hb:∀i∈x'::y'::z'::(ids1++idsL),m≤i∧i<m') (ham:a≤m)
    (hx:H' x'=some [.i .i64 v]) (hy:H' y'=some [r1]) (hz:H' z'=some [L]):
    QsR a m' H' x' y' z' [.i .i64 v] [r1] [L] [.i .i64 v] [X1] [XL]:=by
  refine⟨hx,hy,hz,[]++[],ids1++[],idsL++[],.cons _ _ _ _ _ _ (.leaf _ (.i _ _) (.i _ _)) .nil,.cons _ _ _ _ _ _ ho .nil,.cons _ _ _ _ _ _ hL .nil,by simpa using hnd,fun i hi=> ?_⟩
  have:=hb i (by simpa using hi)
  omega
theorem QsR.own {a m:Nat} {H:HP} {x y z:Nat} {xs ys zs oL pL cL:List AV} (h:QsR a m H x y z xs ys zs oL pL cL):∃ids,Own a m H (.g [.h x 0 xs.length,.h y 0 ys.length,.h z 0 zs.length]) (.g [.v oL.length oL,.v pL.length pL,.v cL.length cL]) ids:=by
  obtain⟨l1,l2,l3⟩:=h.len
  obtain⟨i1,i2,i3,h1,h2,h3,h4,h5⟩:=h.ex
  rw[←l1,←l2,←l3]
  refine⟨(x::i1)++((y::i2)++((z::i3)++[])),Ow.g _ _ _ (.cons _ _ _ _ _ _ (Ow.h x xs oL i1 h.hx h1) (.cons _ _ _ _ _ _ (Ow.h y ys pL i2 h.hy h2) (.cons _ _ _ _ _ _ (Ow.h z zs cL i3 h.hz h3) .nil))),?_,fun i hi=> ?_⟩
  · simp only[List.append_nil,List.nodup_cons,List.mem_cons,List.mem_append,not_or,List.nodup_append,List.cons_append]at h4 ⊢
    grind
  · refine h5 i ?_
    simp only[List.append_nil,List.mem_cons,List.mem_append,List.cons_append]at hi ⊢
    grind
theorem OutG.oneL {a m m2 id2:Nat} {r1 X1:AV} {H2:HP} {ids1:List Nat} (ho:Ow H2 r1 X1 ids1) (hnd:ids1.Nodup) (hb:∀i∈ids1,m≤i∧i<m2) (hc:H2 id2=some [r1]) (hi:m≤id2) (hi2:id2<m2) (hne:id2∉ids1) (ham:a≤m):OutG a m2 id2 [r1] H2 [X1]:=
  ⟨⟨ids1++[],.cons _ _ _ _ _ _ ho .nil,by simpa using hnd,fun i h=>by have:=hb i (by simpa using h);omega,by simpa using hne⟩,hc,by omega,hi2⟩
theorem OutG.pushL {a m m2 id id2:Nat} {rs:List AV} {r1 X1:AV} {H H2:HP} {X:List AV} {ids1:List Nat} (h:OutG a m id rs H X) (ho:Ow H2 r1 X1 ids1) (hnd:ids1.Nodup) (hb:∀i∈ids1,m≤i∧i<m2)
    (h1:∀i,a≤i→i<m→i≠id→H2 i=H i) (hc:H2 id2=some (rs++[r1])) (hi:m≤id2) (hi2:id2<m2) (hne:id2∉ids1):OutG a m2 id2 (rs++[r1]) H2 (X++[X1]):=by
  obtain⟨⟨ids,g1,g2,g3,g4⟩,g5,g6,g7⟩:=h
  refine⟨⟨ids++(ids1++[]),OwL.append (g1.keep fun i hi=>h1 i (g3 i hi).1 (g3 i hi).2 (fun e=>g4 (by rw[←e];exact hi))) (.cons _ _ _ _ _ _ ho .nil),?_,?_,?_⟩,hc,by omega,hi2⟩
  · rw[List.append_nil,List.nodup_append]
    exact⟨g2,hnd,fun x hx y hy e=>by have:=g3 x hx;have:=hb y hy;omega⟩
  · intro i hi
    rw[List.append_nil]at hi
    rcases List.mem_append.1 hi with hi|hi
    · have:=g3 i hi;omega
    · have:=hb i hi;omega
  · intro hi
    rw[List.append_nil]at hi
    rcases List.mem_append.1 hi with hi|hi
    · have:=g3 _ hi;omega
    · exact hne hi
end Go.Proofs.YtnlfbimjcabgiaaGreat
