import Derived.Test.YtlcddiojeghfgaaGreatDoorZ28
import Derived.Test.YtlcddiojeghfgaaGreatDoorZ46
import Derived.Test.YtlcddiojeghfgaaGreatDoorZ47
set_option linter.unusedVariables false
set_option linter.unusedSimpArgs false
namespace Go.Proofs.YtlcddiojeghfgaaGreatDoor
open Nat (reduceAdd reduceSub reduceGT reduceEqDiff reduceMul)
theorem spec_l07Relators_n (os:List Int) (pw:List (List Int)) (cj:List (List (List Int))) (h:presOk os pw cj):∀nx,AC Tryz.prog 55 nx noH [prs os pw cj] (fun nx' H' r=>LC H' nx nx' r ((rels os pw cj).map ints)):=by
 have hn6:=h.1.1
 have hpl:=h.1.2.1
 have hcl:=h.1.2.2
 intro nx
 refine AC.intro' envOk Tryz.func55 rfl (by kernel_rfl) Tryz.ntmps55 Tryz.results55 (fun cX=> ?_)
 refine AW.sr envOk (fun N hN=> ?_)
 simp-dsimp-implicitDefEqProofs (disch:=(first|omega|((repeat refine LC.upd (by omega) ?_);assumption))) only[go_sem,undef,prs,ints,rows,cubes,gd_i,gd_r,gd_c,w64,one_hq]
 refine hN _ ?_
 try clear hN N
 refine AW.freezeQ 1 nx _ rfl (upd_same _ _ _) ?_
 simp-dsimp-implicitDefEqProofs (disch:=(first|omega|((repeat refine LC.upd (by omega) ?_);assumption))) only[go_sem,undef]
 refine AW.sr envOk (fun N hN=> ?_)
 simp-dsimp-implicitDefEqProofs (disch:=(first|omega|((repeat refine LC.upd (by omega) ?_);assumption))) only[go_sem,undef,prs,ints,rows,cubes,gd_i,gd_r,gd_c,w64,one_hq]
 refine hN _ ?_
 try clear hN N
 refine AW.sr envOk (fun N hN=> ?_)
 simp-dsimp-implicitDefEqProofs (disch:=(first|omega|((repeat refine LC.upd (by omega) ?_);assumption))) only[go_sem,undef,prs,ints,rows,cubes,gd_i,gd_r,gd_c,w64,one_hq]
 refine hN _ ?_
 try clear hN N
 refine AW.seq (fun N1 hN1=> ?_)
 refine AW.sr envOk (fun N hN=> ?_)
 simp-dsimp-implicitDefEqProofs (disch:=(first|omega|((repeat refine LC.upd (by omega) ?_);assumption))) only[go_sem,undef,prs,ints,rows,cubes,gd_i,gd_r,gd_c,w64,one_hq]
 refine hN _ ?_
 try clear hN N
 refine AW.block ?_
 refine AW.loopN (α:=Nat×Nat) (fun x=>sl 86 [(1,.p 0 [ints os,rows pw,cubes cj]),(3,.h x.2 0 x.1),(4,.i .i64 os.length),(5,.i .i64 x.1)]) (fun x=>upd noH x.2 (some ((relsA os pw x.1).map ints))) (fun x m=>x.1≤os.length∧x.2<m∧nx≤x.2) (fun x=>os.length-x.1) ((0,nx+2)) ?_ ?_ (by intro d cs hd;simp only[upd,noH,relsA,List.range_zero,List.map_nil]at hd ⊢;grind) ?_
 ·exact⟨by omega,by first|omega|(simp only;omega)|(dsimp only;omega),by first|omega|(simp only;omega)|(dsimp only;omega)⟩
 ·simp(disch:=omega) [wks,wkA,sl,w64,ints,rows,cubes,prs,ints,rows,cubes,gd_i,gd_r,gd_c,w64,one_hq]<;>omega
 ·skip
  rintro⟨k,id⟩ m ⟨hk,hid,hlo⟩
  dsimp only at hk hid hlo ⊢
  refine AW.seq (fun N2 hN2=> ?_)
  refine AW.sr envOk (fun N hN=> ?_)
  simp-dsimp-implicitDefEqProofs (disch:=(first|omega|((repeat refine LC.upd (by omega) ?_);assumption))) only[go_sem,undef,prs,ints,rows,cubes,gd_i,gd_r,gd_c,w64,one_hq]
  refine hN _ ?_
  try clear hN N
  refine AW.cond rfl (fun h1=> ?_) (fun h1=> ?_)
  ·try simp only[cn]at h1
   have hko:=h.pw (i:=k) (by omega)
   have hok:=pr4_bd (h.2.1 k (by omega))
   have hwl:(invW (wdN (pw.getD k []) (pw.getD k []).length)).length≤6000:=by rw[invW_len];exact hko.len
   have hrl:(relsA os pw k).length=k:=relsA_len
   refine AW.skip ?_
   simp only[thn,blk]
   refine hN2 _ ?_
   try clear hN2 N2
   refine AW.seq (fun N3 hN3=> ?_)
   refine AW.block ?_
   refine AW.sr envOk (fun N hN=> ?_)
   simp-dsimp-implicitDefEqProofs (disch:=(first|omega|((repeat refine LC.upd (by omega) ?_);assumption))) only[go_sem,undef,prs,ints,rows,cubes,gd_i,gd_r,gd_c,w64,one_hq]
   refine hN _ ?_
   try clear hN N
   refine AW.seq (fun N4 hN4=> ?_)
   refine AW.sr envOk (fun N hN=> ?_)
   simp-dsimp-implicitDefEqProofs (disch:=(first|omega|((repeat refine LC.upd (by omega) ?_);assumption))) only[go_sem,undef,prs,ints,rows,cubes,gd_i,gd_r,gd_c,w64,one_hq]
   refine hN _ ?_
   try clear hN N
   refine AW.block ?_
   refine AW.loopN (α:=Nat×Nat) (fun x=>sl 86 [(1,.p 0 [ints os,rows pw,cubes cj]),(3,.h id 0 k),(4,.i .i64 os.length),(5,.i .i64 k),(6,.h x.2 0 x.1),(7,.i .i64 x.1)]) (fun x=>upd (upd noH id (some ((relsA os pw k).map ints))) x.2 (some ((List.replicate x.1 ((k:Int)+1)).map (.i .i64)))) (fun x m=>(x.1:Int)≤os.getD k 0∧x.2<m∧id<x.2) (fun x=>(os.getD k 0).toNat-x.1) ((0,m+3)) ?_ ?_ (by intro d cs hd;simp only[upd,noH,List.replicate_zero,List.map_nil]at hd ⊢;grind) ?_
   ·exact⟨by omega,by first|omega|(simp only;omega)|(dsimp only;omega),by first|omega|(simp only;omega)|(dsimp only;omega)⟩
   ·simp(disch:=omega) [wks,wkA,sl,w64,ints,rows,cubes,prs,ints,rows,cubes,gd_i,gd_r,gd_c,w64,one_hq]<;>omega
   ·skip
    rintro⟨j,id2⟩ m2 ⟨hj,hid2,hid3⟩
    dsimp only at hj hid2 hid3 ⊢
    refine AW.seq (fun N5 hN5=> ?_)
    refine AW.sr envOk (fun N hN=> ?_)
    simp-dsimp-implicitDefEqProofs (disch:=(first|omega|((repeat refine LC.upd (by omega) ?_);assumption))) only[go_sem,undef,prs,ints,rows,cubes,gd_i,gd_r,gd_c,w64,one_hq]
    refine hN _ ?_
    try clear hN N
    refine AW.cond rfl (fun h2=> ?_) (fun h2=> ?_)
    ·try simp only[cn]at h2
     refine AW.skip ?_
     simp only[thn,blk]
     refine hN5 _ ?_
     try clear hN5 N5
     refine AW.seq (fun N6 hN6=> ?_)
     refine AW.block ?_
     refine AW.regionL envOk ?_
     simp-dsimp-implicitDefEqProofs (disch:=(first|omega|((repeat refine LC.upd (by omega) ?_);assumption))) only[go_sem,undef,prs,ints,rows,cubes,gd_i,gd_r,gd_c,w64,one_hq]
     refine hN6 _ ?_
     try clear hN6 N6
     refine AW.regionL envOk ?_
     simp-dsimp-implicitDefEqProofs (disch:=(first|omega|((repeat refine LC.upd (by omega) ?_);assumption))) only[go_sem,undef,prs,ints,rows,cubes,gd_i,gd_r,gd_c,w64,one_hq]
     refine⟨(j+1,m2+7+4),?_,by rw[rep_next];intro d cs hd;simp only[upd,noH,tk_rep,List.map_append,List.map_cons,List.map_nil]at hd ⊢;grind,?_,?_⟩
     ·simp(disch:=omega) [wks,wkA,sl,w64,ints,rows,cubes,prs,ints,rows,cubes,gd_i,gd_r,gd_c,w64,one_hq]<;>omega
     ·exact⟨by omega,by first|omega|(simp only;omega)|(dsimp only;omega),by first|omega|(simp only;omega)|(dsimp only;omega)⟩
     ·first|omega|(simp only;omega)
    ·try simp only[cn]at h2
     refine AW.exit ?_
     simp only[thn,blk,if_true]
     refine hN4 _ ?_
     try clear hN4 N4
     refine AW.regionL envOk ?_
     simp-dsimp-implicitDefEqProofs (disch:=(first|omega|((repeat refine LC.upd (by omega) ?_);assumption))) only[go_sem,undef,prs,ints,rows,cubes,gd_i,gd_r,gd_c,w64,one_hq]
     refine AC.pure (.of (spec_l07Word_ok (pw.getD k []) (by have:=hko.n;omega) hko.v)) ?_
     try simp-dsimp-implicitDefEqProofs (disch:=(first|omega|((repeat refine LC.upd (by omega) ?_);assumption))) only[go_sem,undef,prs,ints,rows,cubes,gd_i,gd_r,gd_c,w64,one_hq]
     refine AC.pure (.of (spec_l06Invert_ok (wdN (pw.getD k []) (pw.getD k []).length) (by have:=hko.len;unfold nwd at this;omega) hko.bd)) ?_
     try simp-dsimp-implicitDefEqProofs (disch:=(first|omega|((repeat refine LC.upd (by omega) ?_);assumption))) only[go_sem,undef,prs,ints,rows,cubes,gd_i,gd_r,gd_c,w64,one_hq]
     refine hN3 _ ?_
     try clear hN3 N3
     have hj':j=(os.getD k 0).toNat:=by omega
     refine AW.fzrw (m2+7+11) (m2+7+9) (j+(invW (wdN (pw.getD k []) (pw.getD k []).length)).length) (relsA os pw k) (relA os pw k) (upd_same _ _ _) (by rw[List.take_of_length_le (by rw[List.length_map,relsA_len];exact Nat.le_refl _)]) ((upd_ne _ _ (by omega)).trans ((upd_ne _ _ (by omega)).trans ((upd_ne _ _ (by omega)).trans (upd_same _ _ _)))) ?_ (by unfold relA;rw[List.length_append,List.length_replicate,←hj'];rfl) (by omega) ?_
     ·rw[tk_rep,←List.map_append,hj'];rfl
     rw[←relsA_s]
     simp-dsimp-implicitDefEqProofs (disch:=(first|omega|((repeat refine LC.upd (by omega) ?_);assumption))) only[go_sem,undef]
     refine AW.regionL envOk ?_
     simp-dsimp-implicitDefEqProofs (disch:=(first|omega|((repeat refine LC.upd (by omega) ?_);assumption))) only[go_sem,undef,prs,ints,rows,cubes,gd_i,gd_r,gd_c,w64,one_hq]
     refine⟨(k+1,m2+7+11),?_,by intro d cs hd;simp only[upd,noH]at hd ⊢;grind,?_,?_⟩
     ·simp(disch:=omega) [wks,wkA,sl,w64,ints,rows,cubes,prs,ints,rows,cubes,gd_i,gd_r,gd_c,w64,one_hq]<;>omega
     ·exact⟨by omega,by first|omega|(simp only;omega)|(dsimp only;omega),by first|omega|(simp only;omega)|(dsimp only;omega)⟩
     ·first|omega|(simp only;omega)
  ·try simp only[cn]at h1
   refine AW.exit ?_
   simp only[thn,blk,if_true]
   refine hN1 _ ?_
   try clear hN1 N1
   refine AW.seq (fun N7 hN7=> ?_)
   refine AW.sr envOk (fun N hN=> ?_)
   simp-dsimp-implicitDefEqProofs (disch:=(first|omega|((repeat refine LC.upd (by omega) ?_);assumption))) only[go_sem,undef,prs,ints,rows,cubes,gd_i,gd_r,gd_c,w64,one_hq]
   refine hN _ ?_
   try clear hN N
   refine AW.block ?_
   refine AW.loopN (α:=Nat×Nat) (fun x=>sl 86 [(1,.p 0 [ints os,rows pw,cubes cj]),(3,.h x.2 0 (os.length+(relsC cj os.length x.1).length)),(4,.i .i64 os.length),(8,.i .i64 x.1)]) (fun x=>upd noH x.2 (some ((relsA os pw os.length++relsC cj os.length x.1).map ints))) (fun x m=>x.1≤os.length∧x.2<m∧nx≤x.2) (fun x=>os.length-x.1) ((0,id)) ?_ ?_ (by rw[show k=os.length by omega];simp only[relsC,List.append_nil];exact Le.refl _) ?_
   ·exact⟨by omega,by first|omega|(simp only;omega)|(dsimp only;omega),by first|omega|(simp only;omega)|(dsimp only;omega)⟩
   ·simp[wks,wkA,sl,ints,rows,cubes,relsC];try omega
   ·skip
    rintro⟨i,q⟩ m3 ⟨hi,hq,hqlo⟩
    dsimp only at hi hq hqlo ⊢
    refine AW.seq (fun N8 hN8=> ?_)
    refine AW.sr envOk (fun N hN=> ?_)
    simp-dsimp-implicitDefEqProofs (disch:=(first|omega|((repeat refine LC.upd (by omega) ?_);assumption))) only[go_sem,undef,prs,ints,rows,cubes,gd_i,gd_r,gd_c,w64,one_hq]
    refine hN _ ?_
    try clear hN N
    refine AW.cond rfl (fun h3=> ?_) (fun h3=> ?_)
    ·try simp only[cn]at h3
     have hci:=h.cj (i:=i) (by omega)
     have hcl2:=relsC_len (cj:=cj) (n:=os.length) i (by omega)
     have hcl3:os.length*i≤6*6:=Nat.mul_le_mul hn6 (by omega)
     refine AW.skip ?_
     simp only[thn,blk]
     refine hN8 _ ?_
     try clear hN8 N8
     refine AW.seq (fun N9 hN9=> ?_)
     refine AW.block ?_
     refine AW.sr envOk (fun N hN=> ?_)
     simp-dsimp-implicitDefEqProofs (disch:=(first|omega|((repeat refine LC.upd (by omega) ?_);assumption))) only[go_sem,undef,prs,ints,rows,cubes,gd_i,gd_r,gd_c,w64,one_hq]
     refine hN _ ?_
     try clear hN N
     refine AW.block ?_
     refine AW.loopN (α:=Nat×Nat) (fun x=>sl 86 [(1,.p 0 [ints os,rows pw,cubes cj]),(3,.h x.2 0 (os.length+(relsC cj os.length i).length+x.1)),(4,.i .i64 os.length),(8,.i .i64 i),(9,.i .i64 ((i+1+x.1:Nat):Int))]) (fun x=>upd noH x.2 (some ((relsA os pw os.length++relsC cj os.length i++relsB cj i x.1).map ints))) (fun x m=>i+1+x.1≤os.length∧x.2<m∧nx≤x.2) (fun x=>os.length-x.1) ((0,q)) ?_ ?_ (by simp only[relsB,List.range_zero,List.map_nil,List.append_nil];exact Le.refl _) ?_
     ·exact⟨by omega,by first|omega|(simp only;omega)|(dsimp only;omega),by first|omega|(simp only;omega)|(dsimp only;omega)⟩
     ·simp(disch:=omega) [wks,wkA,sl,w64,ints,rows,cubes,prs,ints,rows,cubes,gd_i,gd_r,gd_c,w64,one_hq]<;>omega
     ·skip
      rintro⟨d,q2⟩ m4 ⟨hd,hq2,hq2lo⟩
      dsimp only at hd hq2 hq2lo ⊢
      refine AW.seq (fun N10 hN10=> ?_)
      refine AW.sr envOk (fun N hN=> ?_)
      simp-dsimp-implicitDefEqProofs (disch:=(first|omega|((repeat refine LC.upd (by omega) ?_);assumption))) only[go_sem,undef,prs,ints,rows,cubes,gd_i,gd_r,gd_c,w64,one_hq]
      refine hN _ ?_
      try clear hN N
      refine AW.cond rfl (fun h4=> ?_) (fun h4=> ?_)
      ·try simp only[cn]at h4
       have hko:=hci.2 d (by omega)
       have hwl:(invW (wdN ((cj.getD i []).getD d []) ((cj.getD i []).getD d []).length)).length≤6000:=by rw[invW_len];exact hko.len
       have e1:(((i+1+d:Nat):Int)-i-1).toNat=d:=by omega
       have hrl:(relsA os pw os.length++relsC cj os.length i++relsB cj i d).length=os.length+(relsC cj os.length i).length+d:=by rw[List.length_append,List.length_append,relsA_len,relsB_len]
       have hla:(relsA os pw os.length).length=os.length:=relsA_len
       have hlb:(relsB cj i d).length=d:=relsB_len
       refine AW.skip ?_
       simp only[thn,blk]
       refine hN10 _ ?_
       try clear hN10 N10
       refine AW.seq (fun N11 hN11=> ?_)
       refine AW.block ?_
       refine AW.sr envOk (fun N hN=> ?_)
       simp-dsimp-implicitDefEqProofs (disch:=(first|omega|((repeat refine LC.upd (by omega) ?_);assumption))) only[go_sem,undef,prs,ints,rows,cubes,gd_i,gd_r,gd_c,w64,one_hq]
       refine hN _ ?_
       try clear hN N
       refine AW.regionL envOk ?_
       simp-dsimp-implicitDefEqProofs (disch:=(first|omega|((repeat refine LC.upd (by omega) ?_);assumption))) only[go_sem,undef,prs,ints,rows,cubes,gd_i,gd_r,gd_c,w64,one_hq,e1]
       refine AC.pure (.of (spec_l07Word_ok ((cj.getD i []).getD d []) (by have:=hko.n;omega) hko.v)) ?_
       try simp-dsimp-implicitDefEqProofs (disch:=(first|omega|((repeat refine LC.upd (by omega) ?_);assumption))) only[go_sem,undef,prs,ints,rows,cubes,gd_i,gd_r,gd_c,w64,one_hq]
       refine AC.pure (.of (spec_l06Invert_ok (wdN ((cj.getD i []).getD d []) ((cj.getD i []).getD d []).length) (by have:=hko.len;unfold nwd at this;omega) hko.bd)) ?_
       try simp-dsimp-implicitDefEqProofs (disch:=(first|omega|((repeat refine LC.upd (by omega) ?_);assumption))) only[go_sem,undef,prs,ints,rows,cubes,gd_i,gd_r,gd_c,w64,one_hq]
       refine hN11 _ ?_
       try clear hN11 N11
       refine AW.fzrw (m4+3+9+17) (m4+3+9+15) (3+(invW (wdN ((cj.getD i []).getD d []) ((cj.getD i []).getD d []).length)).length) (relsA os pw os.length++relsC cj os.length i++relsB cj i d) (relB cj i d) (upd_same _ _ _) (by rw[List.take_of_length_le (by rw[List.length_map,hrl];exact Nat.le_refl _)]) ((upd_ne _ _ (by omega)).trans ((upd_ne _ _ (by omega)).trans ((upd_ne _ _ (by omega)).trans (upd_same _ _ _)))) ?_ (by unfold relB nwd;rw[List.length_append];rfl) (by omega) ?_
       ·simp only[relB,nwd,List.map_append,List.map_cons,List.map_nil,Int.zero_sub];rfl
       rw[show relsA os pw os.length++relsC cj os.length i++relsB cj i d++[relB cj i d]=relsA os pw os.length++relsC cj os.length i++relsB cj i (d+1)from by rw[List.append_assoc,←relsB_s]]
       simp-dsimp-implicitDefEqProofs (disch:=(first|omega|((repeat refine LC.upd (by omega) ?_);assumption))) only[go_sem,undef]
       refine AW.regionL envOk ?_
       simp-dsimp-implicitDefEqProofs (disch:=(first|omega|((repeat refine LC.upd (by omega) ?_);assumption))) only[go_sem,undef,prs,ints,rows,cubes,gd_i,gd_r,gd_c,w64,one_hq]
       refine⟨(d+1,m4+3+9+17),?_,by intro d cs hd;simp only[upd,noH]at hd ⊢;grind,?_,?_⟩
       ·simp(disch:=omega) [wks,wkA,sl,w64,ints,rows,cubes,prs,ints,rows,cubes,gd_i,gd_r,gd_c,w64,one_hq]<;>omega
       ·exact⟨by omega,by first|omega|(simp only;omega)|(dsimp only;omega),by first|omega|(simp only;omega)|(dsimp only;omega)⟩
       ·first|omega|(simp only;omega)
      ·try simp only[cn]at h4
       refine AW.exit ?_
       simp only[thn,blk,if_true]
       refine hN9 _ ?_
       try clear hN9 N9
       refine AW.regionL envOk ?_
       simp-dsimp-implicitDefEqProofs (disch:=(first|omega|((repeat refine LC.upd (by omega) ?_);assumption))) only[go_sem,undef,prs,ints,rows,cubes,gd_i,gd_r,gd_c,w64,one_hq]
       have e3:relsC cj os.length (i+1)=relsC cj os.length i++relsB cj i d:=by rw[relsC,show os.length-1-i=d by omega]
       refine⟨(i+1,q2),?_,by simp only[e3,List.append_assoc];exact Le.refl _,?_,?_⟩
       ·simp(disch:=omega) [wks,wkA,sl,w64,ints,rows,cubes,e3,relsB_len]<;>omega
       ·exact⟨by omega,by first|omega|(simp only;omega)|(dsimp only;omega),by first|omega|(simp only;omega)|(dsimp only;omega)⟩
       ·first|omega|(simp only;omega)
    ·try simp only[cn]at h3
     refine AW.exit ?_
     simp only[thn,blk,if_true]
     refine hN7 _ ?_
     try clear hN7 N7
     refine AW.sr envOk (fun N hN=> ?_)
     simp-dsimp-implicitDefEqProofs (disch:=(first|omega|((repeat refine LC.upd (by omega) ?_);assumption))) only[go_sem,undef,prs,ints,rows,cubes,gd_i,gd_r,gd_c,w64,one_hq]
     refine hN _ ?_
     try clear hN N
     refine AW.ret ?_
     simp-dsimp-implicitDefEqProofs (disch:=(first|omega|((repeat refine LC.upd (by omega) ?_);assumption))) only[go_sem,undef]
     obtain rfl:i=os.length:=by omega
     exact LC.mk (upd_same _ _ _) (by unfold rels;rw[List.length_map,List.length_append,relsA_len]) (by omega) (by first|omega|(simp only;omega)|(dsimp only;omega))
theorem spec_l06Invert_n (w:List Int) (hw:w.length≤1048576) (hv:∀k,k<w.length→-1048576≤w.getD k 0∧w.getD k 0≤1048576):∀nx,AC Tryz.prog 60 nx noH [ints w] (fun nx' H' r=>∃id,r= .h id 0 (invW w).length∧(nx≤id∧id<nx')∧H' id=some ((invW w).map (.i .i64))):=by
 intro nx
 refine AC.intro' envOk Tryz.func60 rfl (by kernel_rfl) Tryz.ntmps60 Tryz.results60 (fun cX=> ?_)
 refine AW.sr envOk (fun N hN=> ?_)
 simp-dsimp-implicitDefEqProofs (disch:=(first|omega|((repeat refine LC.upd (by omega) ?_);assumption))) only[go_sem,undef,ints,w64,gd_i]
 refine hN _ ?_
 try clear hN N
 refine AW.sr envOk (fun N hN=> ?_)
 simp-dsimp-implicitDefEqProofs (disch:=(first|omega|((repeat refine LC.upd (by omega) ?_);assumption))) only[go_sem,undef,ints,w64,gd_i]
 refine hN _ ?_
 try clear hN N
 refine AW.seq (fun N1 hN1=> ?_)
 refine AW.sr envOk (fun N hN=> ?_)
 simp-dsimp-implicitDefEqProofs (disch:=(first|omega|((repeat refine LC.upd (by omega) ?_);assumption))) only[go_sem,undef,ints,w64,gd_i]
 refine hN _ ?_
 try clear hN N
 refine AW.block ?_
 refine AW.loopN (α:=Nat×Nat×List Int) (fun x=>sl 22 [(0,ints w),(3,.h x.2.1 0 x.2.2.length),(4,.i .i64 ((w.length:Int)-1-x.1))]) (fun x=>upd noH x.2.1 (some (x.2.2.map (.i .i64)))) (fun x m=>(x.1≤w.length∧x.2.1<m∧nx≤x.2.1)∧x.2.2=(invW w).take x.1) (fun x=>w.length-x.1) ((0,nx+1,[])) ?_ ?_ (by intro d cs hd;simp only[upd,noH,List.map_nil]at hd ⊢;grind) ?_
 ·exact⟨⟨by omega,by first|omega|(simp only;omega)|(dsimp only;omega),by first|omega|(simp only;omega)|(dsimp only;omega)⟩,by simp⟩
 ·simp(disch:=omega) [wks,wkA,sl,w64,ints,rows,cubes,ints,w64,gd_i]<;>omega
 ·skip
  rintro⟨k,id,K⟩ m ⟨⟨hk,hid,hlo⟩,hK⟩
  dsimp only at hk hid hlo hK ⊢
  have hKl:K.length=k:=by rw[hK,List.length_take,invW_len];omega
  refine AW.seq (fun N2 hN2=> ?_)
  refine AW.sr envOk (fun N hN=> ?_)
  simp-dsimp-implicitDefEqProofs (disch:=(first|omega|((repeat refine LC.upd (by omega) ?_);assumption))) only[go_sem,undef,ints,w64,gd_i]
  refine hN _ ?_
  try clear hN N
  refine AW.cond rfl (fun h1=> ?_) (fun h1=> ?_)
  ·try simp only[cn]at h1
   have e1:((w.length:Int)-1-k).toNat=w.length-1-k:=by omega
   have hb:=hv (w.length-1-k) (by omega)
   have ht:=invW_take (w:=w) (d:=k) (by omega)
   refine AW.skip ?_
   simp only[thn,blk]
   refine hN2 _ ?_
   try clear hN2 N2
   refine AW.seq (fun N3 hN3=> ?_)
   refine AW.block ?_
   refine AW.regionL envOk ?_
   simp-dsimp-implicitDefEqProofs (disch:=(first|omega|((repeat refine LC.upd (by omega) ?_);assumption))) only[go_sem,undef,ints,w64,gd_i,e1]
   refine hN3 _ ?_
   try clear hN3 N3
   refine AW.regionL envOk ?_
   simp-dsimp-implicitDefEqProofs (disch:=(first|omega|((repeat refine LC.upd (by omega) ?_);assumption))) only[go_sem,undef,ints,w64,gd_i]
   refine⟨(k+1,m+2+7,K++[-(w.getD (w.length-1-k) 0)]),?_,by intro d cs hd;simp only[upd,noH,tk_map,List.map_append,List.map_cons,List.map_nil,Int.zero_sub]at hd ⊢;grind,?_,?_⟩
   ·simp(disch:=omega) [wks,wkA,sl,w64,ints,e1]<;>omega
   ·exact⟨⟨by omega,by first|omega|(simp only;omega)|(dsimp only;omega),by first|omega|(simp only;omega)|(dsimp only;omega)⟩,by simp only[];rw[ht,hK]⟩
   ·first|omega|(simp only;omega)
  ·try simp only[cn]at h1
   refine AW.exit ?_
   simp only[thn,blk,if_true]
   refine hN1 _ ?_
   try clear hN1 N1
   refine AW.sr envOk (fun N hN=> ?_)
   simp-dsimp-implicitDefEqProofs (disch:=(first|omega|((repeat refine LC.upd (by omega) ?_);assumption))) only[go_sem,undef,ints,w64,gd_i]
   refine hN _ ?_
   try clear hN N
   refine AW.ret ?_
   simp-dsimp-implicitDefEqProofs (disch:=(first|omega|((repeat refine LC.upd (by omega) ?_);assumption))) only[go_sem,undef]
   have hfin:K=invW w:=by rw[hK,show k=w.length by omega,←invW_len,List.take_length]
   rw[hfin]
   exact⟨_,rfl,⟨by omega,by first|omega|(simp only;omega)|(dsimp only;omega)⟩,upd_same _ _ _⟩
structure rwOk (W:List (List Int)):Prop where
  n:W.length≤1000
  v:∀w∈W,w.length≤1048576
theorem rwOk.nil:rwOk []:=⟨by simp,by simp⟩
theorem rwOk.rl {W:List (List Int)} (h:rwOk W):rowslen W:=⟨by have:=h.n;omega,h.v⟩
def fpL (nx nx':Nat) (H':HP) (r:AV):Prop:=∃g L W,r= .g [.i .i64 g,L]∧LC H' nx nx' L (W.map ints)∧rwOk W∧(-100≤g∧g≤100)
theorem rels_n {os:List Int} {pw:List (List Int)} {cj:List (List (List Int))} (h:presOk os pw cj):rwOk (rels os pw cj):=by
  refine⟨?_,(rels_rl h).v⟩
  have h6:=h.1.1
  unfold rels
  rw[List.length_append,relsA_len]
  have h1:=relsC_len (cj:=cj) (n:=os.length) os.length (Nat.le_refl _)
  have h2:os.length*os.length≤6*6:=Nat.mul_le_mul h6 h6
  omega
theorem spec_FpOfPresentation_n (os:List Int) (pw:List (List Int)) (cj:List (List (List Int))) (h:presOk os pw cj):∀nx,AC Tryz.prog 37 nx noH [prs os pw cj] (fun nx' H' r=>∃r1 e,r= .t [r1,.i .i64 e]∧fpL nx nx' H' r1):=by
 have hl:=(h.shB).prlen (by omega)
 have h6:=h.1.1
 intro nx
 refine AC.intro' envOk Tryz.func37 rfl (by kernel_rfl) Tryz.ntmps37 Tryz.results37 (fun cX=> ?_)
 refine AW.sr envOk (fun N hN=> ?_)
 simp-dsimp-implicitDefEqProofs (disch:=(first|omega|((repeat refine LC.upd (by omega) ?_);assumption))) only[go_sem,undef,prs,ints,w64]
 refine hN _ ?_
 try clear hN N
 refine AW.seq (fun N1 hN1=> ?_)
 refine AW.freezeQ 1 nx _ rfl ((upd_ne _ _ (by omega)).trans (upd_same _ _ _)) ?_
 simp-dsimp-implicitDefEqProofs (disch:=(first|omega|((repeat refine LC.upd (by omega) ?_);assumption))) only[go_sem,undef]
 refine AW.sr envOk (fun N hN=> ?_)
 simp-dsimp-implicitDefEqProofs (disch:=(first|omega|((repeat refine LC.upd (by omega) ?_);assumption))) only[go_sem,undef,prs,ints,w64]
 refine AC.pure (.of (spec_IsPresentation_ok os pw cj hl)) ?_
 try simp-dsimp-implicitDefEqProofs (disch:=(first|omega|((repeat refine LC.upd (by omega) ?_);assumption))) only[go_sem,undef,prs,ints,w64]
 refine hN _ ?_
 try clear hN N
 refine AW.cond rfl (fun h1=> ?_) (fun h1=> ?_)
 ·try simp only[cn]at h1
  exact absurd h h1
 ·try simp only[cn]at h1
  refine AW.skip ?_
  simp only[thn,blk]
  refine hN1 _ ?_
  try clear hN1 N1
  refine AW.seq (fun N2 hN2=> ?_)
  refine AW.sr envOk (fun N hN=> ?_)
  simp-dsimp-implicitDefEqProofs (disch:=(first|omega|((repeat refine LC.upd (by omega) ?_);assumption))) only[go_sem,undef,prs,ints,w64]
  refine hN _ ?_
  try clear hN N
  refine AW.cond rfl (fun h2=> ?_) (fun h2=> ?_)
  ·try simp only[cn]at h2
   refine AW.sr envOk (fun N hN=> ?_)
   simp-dsimp-implicitDefEqProofs (disch:=(first|omega|((repeat refine LC.upd (by omega) ?_);assumption))) only[go_sem,undef,prs,ints,w64]
   refine hN _ ?_
   try clear hN N
   refine AW.ret ?_
   simp-dsimp-implicitDefEqProofs (disch:=(first|omega|((repeat refine LC.upd (by omega) ?_);assumption))) only[go_sem,undef]
   exact⟨_,_,rfl,0,.nl,[],rfl,.nil,.nil,by omega⟩
  ·try simp only[cn]at h2
   refine AW.skip ?_
   simp only[thn,blk]
   refine hN2 _ ?_
   try clear hN2 N2
   refine AW.seq (fun N hN=> ?_)
   refine AW.drawF envOk (by kernel_rfl) [true,true,true,true,false,false,false,true] (by kernel_rfl) ?_
   simp-dsimp-implicitDefEqProofs (disch:=(first|omega|((repeat refine LC.upd (by omega) ?_);assumption))) only[go_sem,undef,prs,ints,w64]
   refine(AC.frame (spec_l07Relators_n os pw cj h _)).mono2 ?_
   rintro m2 H2 L hm2 ⟨G0,hL,hlow,hhigh⟩
   have hL2:=hL.keep (H':=H2) (fun i h1 h2=>hhigh i h1)
   have h02:H2 (nx+1)=some [.i .i64 0,.nl]:=(hlow _ (by omega)).trans (by simp(disch:=omega) only[upd_ne,upd_same])
   have hLo:=hL2.one
   have hLc:=hL2.cells
   try simp-dsimp-implicitDefEqProofs (disch:=(first|omega|((repeat refine LC.upd (by omega) ?_);assumption))) only[go_sem,undef,prs,ints,w64,h02,hLo,hLc,Bool.and_true]
   refine hN _ ?_
   try clear hN N
   refine AW.ret ?_
   simp-dsimp-implicitDefEqProofs (disch:=(first|omega|((repeat refine LC.upd (by omega) ?_);assumption))) only[go_sem,undef]
   exact⟨_,_,rfl,_,L,_,rfl,(LC.upd (by omega) hL2).wide (by omega) (Nat.le_refl _),rels_n h,by omega⟩
def smW (N:Nat) (r:AV):Prop:=∃w,r=ints w∧w.length≤N∧∀k,-100≤w.getD k 0∧w.getD k 0≤100
theorem spec_l09Same_o (v n:Int) (hv: -100≤v∧v≤100) (hn:n≤50):∀nx,AC Tryz.prog 39 nx noH [.i .i64 v,.i .i64 n] (fun nx' H' r=>∃r2,Fz H' (blw nx H') r r2∧smW 50 r2):=by
 intro nx
 refine AC.intro' envOk Tryz.func39 rfl (by kernel_rfl) Tryz.ntmps39 Tryz.results39 (fun cX=> ?_)
 refine AW.sr envOk (fun N hN=> ?_)
 simp-dsimp-implicitDefEqProofs (disch:=(first|omega|((repeat refine LC.upd (by omega) ?_);assumption))) only[go_sem,undef,w64]
 refine hN _ ?_
 try clear hN N
 refine AW.sr envOk (fun N hN=> ?_)
 simp-dsimp-implicitDefEqProofs (disch:=(first|omega|((repeat refine LC.upd (by omega) ?_);assumption))) only[go_sem,undef,w64]
 refine hN _ ?_
 try clear hN N
 refine AW.seq (fun N1 hN1=> ?_)
 refine AW.sr envOk (fun N hN=> ?_)
 simp-dsimp-implicitDefEqProofs (disch:=(first|omega|((repeat refine LC.upd (by omega) ?_);assumption))) only[go_sem,undef,w64]
 refine hN _ ?_
 try clear hN N
 refine AW.block ?_
 refine AW.loopN (α:=Nat×HP×AV) (fun x=>sl 18 [(0,.i .i64 v),(1,.i .i64 n),(5,x.2.2),(6,.i .i64 x.1)]) (fun x=>x.2.1) (fun x m=>(x.1≤50∧nx+3≤m)∧LC x.2.1 nx m x.2.2 ((List.replicate x.1 v).map (.i .i64))) (fun x=>50-x.1) ((0,upd noH (nx+1) (some []),.h (nx+1) 0 0)) ?_ ?_ (fun _ _ h=>h) ?_
 ·exact⟨⟨by simp,by first|omega|(simp only;omega)|(dsimp only;omega)⟩,LC.mk (upd_same _ _ _) rfl (by omega) (by first|omega|(simp only;omega)|(dsimp only;omega))⟩
 ·simp(disch:=omega) [wks,wkA,sl,w64,ints,rows,cubes,w64]<;>omega
 ·skip
  rintro⟨k,G,L⟩ m ⟨⟨hk,hm⟩,hL⟩
  simp-dsimp-implicitDefEqProofs (disch:=(first|omega|((repeat refine LC.upd (by omega) ?_);assumption))) only[go_sem,undef]
  dsimp only at hk hm hL ⊢
  have hLo:=hL.one
  have hLl:=hL.len
  have hcl:((List.replicate k v).map (AV.i .i64)).length=k:=by rw[List.length_map,List.length_replicate]
  refine AW.seq (fun N2 hN2=> ?_)
  refine AW.sr envOk (fun N hN=> ?_)
  simp-dsimp-implicitDefEqProofs (disch:=(first|omega|((repeat refine LC.upd (by omega) ?_);assumption))) only[go_sem,undef,w64]
  refine hN _ ?_
  try clear hN N
  refine AW.cond rfl (fun h1=> ?_) (fun h1=> ?_)
  ·try simp only[cn]at h1
   refine AW.skip ?_
   simp only[thn,blk]
   refine hN2 _ ?_
   try clear hN2 N2
   refine AW.seq (fun N3 hN3=> ?_)
   refine AW.block ?_
   refine AW.regionL envOk ?_
   simp-dsimp-implicitDefEqProofs (disch:=(first|omega|((repeat refine LC.upd (by omega) ?_);assumption))) only[go_sem,undef,w64,hLo,hLl,hcl,apst_LC (a:=nx) (b:=m) (L:=L) (cs:=(List.replicate k v).map (.i .i64))]
   refine hN3 _ ?_
   try clear hN3 N3
   refine AW.nameH (fun G3 hG3=> ?_)
   dsimp only at hG3
   refine AW.regionL envOk ?_
   simp-dsimp-implicitDefEqProofs (disch:=(first|omega|((repeat refine LC.upd (by omega) ?_);assumption))) only[go_sem,undef,w64]
   refine⟨(k+1,G3,.h (m+3+3) 0 (k+1)),?_,fun _ _ h=>h,?_,?_⟩
   ·simp(disch:=omega) [wks,wkA,sl,w64]<;>omega
   ·have hmk:LC G3 nx (m+3+5+3) (.h (m+3+3) 0 (k+1)) ((List.replicate (k+1) v).map (.i .i64)):=LC.mk (by rw[←hG3];simp(disch:=omega) only[upd_ne,upd_same];simp[List.replicate_succ']) (by rw[List.length_map,List.length_replicate]) (by omega) (by omega)
    first|exact⟨⟨by first|omega|(simp only;omega)|(dsimp only;omega),by first|omega|(simp only;omega)|(dsimp only;omega)⟩,hmk⟩|exact⟨by first|omega|(simp only;omega)|(dsimp only;omega),hmk⟩
   ·first|omega|(simp only;omega)
  ·try simp only[cn]at h1
   refine AW.exit ?_
   simp only[thn,blk,if_true]
   refine hN1 _ ?_
   try clear hN1 N1
   refine AW.sr envOk (fun N hN=> ?_)
   simp-dsimp-implicitDefEqProofs (disch:=(first|omega|((repeat refine LC.upd (by omega) ?_);assumption))) only[go_sem,undef,w64]
   refine hN _ ?_
   try clear hN N
   refine AW.ret ?_
   simp-dsimp-implicitDefEqProofs (disch:=(first|omega|((repeat refine LC.upd (by omega) ?_);assumption))) only[go_sem,undef]
   exact⟨_,hL.fzI (Nat.le_refl _),_,rfl,by simp;omega,fun j=>getD_all (p:=fun x:Int=> -100≤x∧x≤100) (fun x hx=>by rw[(List.mem_replicate.1 hx).2];exact hv) (by omega) j⟩
theorem spec_l09Same_z (v n:Int) (hv: -100≤v∧v≤100) (hn:n≤50) (nx:Nat) (H:HP):AC Tryz.prog 39 nx H [.i .i64 v,.i .i64 n] (zK nx H (smW 50)):=AC.zz (spec_l09Same_o v n hv hn nx) H
theorem spec_l06Letters_o {bs:List Int} {sid:Nat} {H:HP} (hg:srcOk bs sid H) (k n:Int) (hk:k≤50) (hn:n≤50) (nx:Nat) (hsn:sid<nx):AC Tryz.prog 40 nx H [.q sid 0,.i .i64 k,.i .i64 n] (fun nx' H' r=>∃r2,Fz H' (blw nx H') r r2∧smW 50 r2∧srcOk bs sid H'∧∀i,i<nx→i≠sid→H' i=H i):=by
 refine AC.introx envOk Tryz.func40 rfl (by kernel_rfl) Tryz.ntmps40 Tryz.results40 (fun hfr cX=> ?_)
 refine AW.sr envOk (fun N hN=> ?_)
 simp-dsimp-implicitDefEqProofs (disch:=(first|omega|((repeat refine LC.upd (by omega) ?_);assumption))) only[go_sem,undef,w64]
 refine hN _ ?_
 try clear hN N
 refine AW.sr envOk (fun N hN=> ?_)
 simp-dsimp-implicitDefEqProofs (disch:=(first|omega|((repeat refine LC.upd (by omega) ?_);assumption))) only[go_sem,undef,w64]
 refine hN _ ?_
 try clear hN N
 refine AW.seq (fun N1 hN1=> ?_)
 refine AW.nameH (fun G0 hG0=> ?_)
 dsimp only at hG0
 have hl:∀i,i<nx→i≠sid→G0 i=H i:=fun i hi _=>by rw[←hG0,upd_ne _ _ (by omega)]
 have h0:G0 (nx+1)=some []:=by rw[←hG0,upd_same]
 replace hg:srcOk bs sid G0:=hg.keep (by rw[←hG0,upd_ne _ _ (by omega)])
 clear hG0
 simp-dsimp-implicitDefEqProofs (disch:=(first|omega|((repeat refine LC.upd (by omega) ?_);assumption))) only[go_sem,undef]
 refine AW.sr envOk (fun N hN=> ?_)
 simp-dsimp-implicitDefEqProofs (disch:=(first|omega|((repeat refine LC.upd (by omega) ?_);assumption))) only[go_sem,undef,w64]
 refine hN _ ?_
 try clear hN N
 refine AW.block ?_
 refine AW.loopN (α:=Nat×HP×AV×List Int) (fun x=>sl 34 [(0,.q sid 0),(1,.i .i64 k),(2,.i .i64 n),(7,x.2.2.1),(8,.i .i64 x.1)]) (fun x=>x.2.1) (fun x m=>(x.1≤50∧nx+3≤m)∧LC x.2.1 nx m x.2.2.1 (x.2.2.2.map (.i .i64))∧(x.2.2.2.length=x.1∧∀z∈x.2.2.2,-100≤z∧z≤100)∧srcOk bs sid x.2.1∧∀i,i<nx→i≠sid→x.2.1 i=H i) (fun x=>50-x.1) ((0,G0,.h (nx+1) 0 0,[])) ?_ ?_ (fun _ _ h=>h) ?_
 ·exact⟨⟨by simp,by first|omega|(simp only;omega)|(dsimp only;omega)⟩,LC.mk h0 rfl (by omega) (by first|omega|(simp only;omega)|(dsimp only;omega)),⟨rfl,by simp⟩,hg,hl⟩
 ·simp(disch:=omega) [wks,wkA,sl,w64,ints,rows,cubes,w64]<;>omega
 ·skip
  rintro⟨j,G,L,vs⟩ m ⟨⟨hj,hm⟩,hL,⟨hvl,hvs⟩,hg,hl⟩
  simp-dsimp-implicitDefEqProofs (disch:=(first|omega|((repeat refine LC.upd (by omega) ?_);assumption))) only[go_sem,undef]
  dsimp only at hj hm hL hvl hvs hg hl ⊢
  have hLo:=hL.one
  have hLl:=hL.len
  have hLb:=hL.bd
  refine AW.seq (fun N2 hN2=> ?_)
  refine AW.sr envOk (fun N hN=> ?_)
  simp-dsimp-implicitDefEqProofs (disch:=(first|omega|((repeat refine LC.upd (by omega) ?_);assumption))) only[go_sem,undef,w64]
  refine gopB.mk' (fun h1=> ?_) (fun h1=> ?_)
  ·try simp only[cn]at h1
   try simp-dsimp-implicitDefEqProofs (disch:=(first|omega|((repeat refine LC.upd (by omega) ?_);assumption))) only[go_sem,undef,w64]
   refine hN _ ?_
   try clear hN N
   refine AW.cond rfl (fun h2=> ?_) (fun h2=> ?_)
   ·try simp only[cn]at h2
    refine AW.skip ?_
    simp only[thn,blk]
    refine hN2 _ ?_
    try clear hN2 N2
    refine AW.seq (fun N3 hN3=> ?_)
    refine AW.block ?_
    refine AW.sr envOk (fun N hN=> ?_)
    simp-dsimp-implicitDefEqProofs (disch:=(first|omega|((repeat refine LC.upd (by omega) ?_);assumption))) only[go_sem,undef,w64]
    refine(spec_l01Next_s hg k (by omega) _).mono2 ?_
    rintro m1 H1 r1 hm1 ⟨⟨x1,rfl,hx1⟩,hg1,hk1⟩
    try simp-dsimp-implicitDefEqProofs (disch:=(first|omega|((repeat refine LC.upd (by omega) ?_);assumption))) only[go_sem,undef,w64]
    refine hN _ ?_
    try clear hN N
    refine AW.seq (fun N4 hN4=> ?_)
    refine AW.sr envOk (fun N hN=> ?_)
    simp-dsimp-implicitDefEqProofs (disch:=(first|omega|((repeat refine LC.upd (by omega) ?_);assumption))) only[go_sem,undef,w64]
    refine(spec_l01Next_s hg1 2 (by omega) _).mono2 ?_
    rintro m2 H2 r2 hm2 ⟨⟨x2,rfl,hx2⟩,hg2,hk2⟩
    have hl2:∀i,i<nx→i≠sid→H2 i=H i:=fun i hi hne=>(hk2 i (by omega) hne).trans ((hk1 i (by omega) hne).trans (hl i hi hne))
    have hL2:LC H2 nx m L (vs.map (.i .i64)):=hL.keep (fun i h1 h2=>(hk2 i (by omega) (by omega)).trans (hk1 i (by omega) (by omega)))
    try simp-dsimp-implicitDefEqProofs (disch:=(first|omega|((repeat refine LC.upd (by omega) ?_);assumption))) only[go_sem,undef,w64]
    refine hN _ ?_
    try clear hN N
    refine AW.cond rfl (fun h3=> ?_) (fun h3=> ?_)
    ·try simp only[cn]at h3
     refine AW.regionL envOk ?_
     simp-dsimp-implicitDefEqProofs (disch:=(first|omega|((repeat refine LC.upd (by omega) ?_);assumption))) only[go_sem,undef,w64]
     refine hN4 _ ?_
     try clear hN4 N4
     refine AW.regionL envOk ?_
     simp-dsimp-implicitDefEqProofs (disch:=(first|omega|((repeat refine LC.upd (by omega) ?_);assumption))) only[go_sem,undef,w64,hLo,hLl,apst_LC (a:=nx) (b:=m) (L:=L) (cs:=vs.map (.i .i64))]
     refine hN3 _ ?_
     try clear hN3 N3
     refine AW.nameH (fun G3 hG3=> ?_)
     dsimp only at hG3
     have hl3:∀i,i<nx→i≠sid→G3 i=H i:=fun i hi hne=>by rw[←hG3,upd_ne _ _ (by omega),dl_ne (by omega),upd_ne _ _ (by omega)];exact hl2 i hi hne
     have hg3:srcOk bs sid G3:=hg2.keep (by rw[←hG3,upd_ne _ _ (by omega),dl_ne (by omega),upd_ne _ _ (by omega)])
     refine AW.regionL envOk ?_
     simp-dsimp-implicitDefEqProofs (disch:=(first|omega|((repeat refine LC.upd (by omega) ?_);assumption))) only[go_sem,undef,w64]
     refine⟨(j+1,G3,.h (m2+3+3) 0 (vs.length+1),vs++[0-(1+x1)]),?_,fun _ _ h=>h,?_,?_⟩
     ·simp(disch:=omega) [wks,wkA,sl,w64]<;>omega
     ·have hmk:LC G3 nx (m2+3+5+3) (.h (m2+3+3) 0 (vs.length+1)) ((vs++[0-(1+x1)]).map (.i .i64)):=LC.mk (by rw[←hG3,upd_same];simp) (by simp) (by omega) (by omega)
      have hv2:∀z∈vs++[0-(1+x1)],-100≤z∧z≤100:=app_all hvs (by omega)
      first|exact⟨⟨by first|omega|(simp only;omega)|(dsimp only;omega),by first|omega|(simp only;omega)|(dsimp only;omega)⟩,hmk,⟨by simp;omega,hv2⟩,hg3,hl3⟩|exact⟨by first|omega|(simp only;omega)|(dsimp only;omega),hmk,⟨by simp;omega,hv2⟩,hg3,hl3⟩
     ·first|omega|(simp only;omega)
    ·try simp only[cn]at h3
     refine AW.skip ?_
     simp only[thn,blk]
     refine hN4 _ ?_
     try clear hN4 N4
     refine AW.regionL envOk ?_
     simp-dsimp-implicitDefEqProofs (disch:=(first|omega|((repeat refine LC.upd (by omega) ?_);assumption))) only[go_sem,undef,w64,hLo,hLl,apst_LC (a:=nx) (b:=m) (L:=L) (cs:=vs.map (.i .i64))]
     refine hN3 _ ?_
     try clear hN3 N3
     refine AW.nameH (fun G3 hG3=> ?_)
     dsimp only at hG3
     have hl3:∀i,i<nx→i≠sid→G3 i=H i:=fun i hi hne=>by rw[←hG3,upd_ne _ _ (by omega),dl_ne (by omega),upd_ne _ _ (by omega)];exact hl2 i hi hne
     have hg3:srcOk bs sid G3:=hg2.keep (by rw[←hG3,upd_ne _ _ (by omega),dl_ne (by omega),upd_ne _ _ (by omega)])
     refine AW.regionL envOk ?_
     simp-dsimp-implicitDefEqProofs (disch:=(first|omega|((repeat refine LC.upd (by omega) ?_);assumption))) only[go_sem,undef,w64]
     refine⟨(j+1,G3,.h (m2+3) 0 (vs.length+1),vs++[1+x1]),?_,fun _ _ h=>h,?_,?_⟩
     ·simp(disch:=omega) [wks,wkA,sl,w64]<;>omega
     ·have hmk:LC G3 nx (m2+5+3) (.h (m2+3) 0 (vs.length+1)) ((vs++[1+x1]).map (.i .i64)):=LC.mk (by rw[←hG3,upd_same];simp) (by simp) (by omega) (by omega)
      have hv2:∀z∈vs++[1+x1],-100≤z∧z≤100:=app_all hvs (by omega)
      first|exact⟨⟨by first|omega|(simp only;omega)|(dsimp only;omega),by first|omega|(simp only;omega)|(dsimp only;omega)⟩,hmk,⟨by simp;omega,hv2⟩,hg3,hl3⟩|exact⟨by first|omega|(simp only;omega)|(dsimp only;omega),hmk,⟨by simp;omega,hv2⟩,hg3,hl3⟩
     ·first|omega|(simp only;omega)
   ·try simp only[cn]at h2
    refine AW.exit ?_
    simp only[thn,blk,if_true]
    refine hN1 _ ?_
    try clear hN1 N1
    refine AW.sr envOk (fun N hN=> ?_)
    simp-dsimp-implicitDefEqProofs (disch:=(first|omega|((repeat refine LC.upd (by omega) ?_);assumption))) only[go_sem,undef,w64]
    refine hN _ ?_
    try clear hN N
    refine AW.ret ?_
    simp-dsimp-implicitDefEqProofs (disch:=(first|omega|((repeat refine LC.upd (by omega) ?_);assumption))) only[go_sem,undef]
    exact⟨_,fun _ _ h=>h,_,hL.fzI (Nat.le_refl _),⟨vs,rfl,by omega,fun j=>getD_all (p:=fun x:Int=> -100≤x∧x≤100) hvs (by omega) j⟩,hg,hl⟩
  ·try simp only[cn]at h1
   try simp-dsimp-implicitDefEqProofs (disch:=(first|omega|((repeat refine LC.upd (by omega) ?_);assumption))) only[go_sem,undef,w64]
   refine hN _ ?_
   try clear hN N
   refine AW.condF rfl ?_
   refine AW.exit ?_
   simp only[thn,blk,if_true]
   refine hN1 _ ?_
   try clear hN1 N1
   refine AW.sr envOk (fun N hN=> ?_)
   simp-dsimp-implicitDefEqProofs (disch:=(first|omega|((repeat refine LC.upd (by omega) ?_);assumption))) only[go_sem,undef,w64]
   refine hN _ ?_
   try clear hN N
   refine AW.ret ?_
   simp-dsimp-implicitDefEqProofs (disch:=(first|omega|((repeat refine LC.upd (by omega) ?_);assumption))) only[go_sem,undef]
   exact⟨_,fun _ _ h=>h,_,hL.fzI (Nat.le_refl _),⟨vs,rfl,by omega,fun j=>getD_all (p:=fun x:Int=> -100≤x∧x≤100) hvs (by omega) j⟩,hg,hl⟩
theorem spec_l06Letters_s {bs:List Int} {sid:Nat} {H:HP} (hg:srcOk bs sid H) (k n:Int) (hk:k≤50) (hn:n≤50) (nx:Nat) (hsn:sid<nx):AC Tryz.prog 40 nx H [.q sid 0,.i .i64 k,.i .i64 n] (sK bs sid nx H (smW 50)):=AC.zs hsn (spec_l06Letters_o hg k n hk hn nx hsn)
theorem Fz.blkL {n a id:Nat} {H:HP} {cs:List AV} {w:List Int} (h:H id=some cs) (ha:a≤id) (hc:cs=w.map (.i .i64)) (hn:n=w.length):Fz H (blw a H) (.h id 0 n) (ints w):=by
  subst hc hn
  exact LC.fzI (H:=H) (n:=a) (a:=id) (b:=id+1) (xs:=w) (.inr ⟨id,by rw[List.length_map],h,Nat.le_refl _,Nat.lt_succ_self _⟩) ha
theorem spec_l06Commute_o (a b:List Int) (ha:a.length≤50) (hb:b.length≤50) (hav:∀k,-100≤a.getD k 0∧a.getD k 0≤100) (hbv:∀k,-100≤b.getD k 0∧b.getD k 0≤100):∀nx,AC Tryz.prog 41 nx noH [ints a,ints b] (fun nx' H' r=>∃r2,Fz H' (blw nx H') r r2∧∃w,r2=ints w∧w.length≤500):=by
 have hla:(invW a).length=a.length:=invW_len ..
 have hlb:(invW b).length=b.length:=invW_len ..
 intro nx
 refine AC.intro' envOk Tryz.func41 rfl (by kernel_rfl) Tryz.ntmps41 Tryz.results41 (fun cX=> ?_)
 refine AW.sr envOk (fun N hN=> ?_)
 simp-dsimp-implicitDefEqProofs (disch:=(first|omega|((repeat refine LC.upd (by omega) ?_);assumption))) only[go_sem,undef,ints,w64]
 refine hN _ ?_
 try clear hN N
 refine AW.sr envOk (fun N hN=> ?_)
 simp-dsimp-implicitDefEqProofs (disch:=(first|omega|((repeat refine LC.upd (by omega) ?_);assumption))) only[go_sem,undef,ints,w64]
 refine(AC.frame (spec_l06Invert_n a (by omega) (fun k _=>by have:=hav k;omega) _)).mono2 ?_
 rintro m1 H1 r1 hm1 ⟨G0,⟨id,rfl,hid,hc0⟩,hlow,hhigh⟩
 have hc1:=(hhigh id hid.1).trans hc0
 try simp-dsimp-implicitDefEqProofs (disch:=(first|omega|((repeat refine LC.upd (by omega) ?_);assumption))) only[go_sem,undef,w64,ints,hc1]
 refine AC.pure (.of (spec_l06Invert_ok b (by omega) (fun k _=>by have:=hbv k;omega))) ?_
 try simp-dsimp-implicitDefEqProofs (disch:=(first|omega|((repeat refine LC.upd (by omega) ?_);assumption))) only[go_sem,undef,w64,ints,hc1]
 refine hN _ ?_
 try clear hN N
 refine AW.sr envOk (fun N hN=> ?_)
 simp-dsimp-implicitDefEqProofs (disch:=(first|omega|((repeat refine LC.upd (by omega) ?_);assumption))) only[go_sem,undef,ints,w64]
 refine hN _ ?_
 try clear hN N
 refine AW.sr envOk (fun N hN=> ?_)
 simp-dsimp-implicitDefEqProofs (disch:=(first|omega|((repeat refine LC.upd (by omega) ?_);assumption))) only[go_sem,undef,ints,w64]
 refine hN _ ?_
 try clear hN N
 refine AW.ret ?_
 simp-dsimp-implicitDefEqProofs (disch:=(first|omega|((repeat refine LC.upd (by omega) ?_);assumption))) only[go_sem,undef]
 exact⟨_,Fz.blkL (upd_same _ _ _) (by omega) (w:=invW a++invW b++a++b) (by rw[List.take_of_length_le (by simp),List.take_of_length_le (by simp),List.take_of_length_le (by simp)];simp) (by simp;omega),_,rfl,by simp[invW_len];omega⟩
theorem spec_l06Commute_z (a b:List Int) (ha:a.length≤50) (hb:b.length≤50) (hav:∀k,-100≤a.getD k 0∧a.getD k 0≤100) (hbv:∀k,-100≤b.getD k 0∧b.getD k 0≤100) (nx:Nat) (H:HP):AC Tryz.prog 41 nx H [ints a,ints b] (zK nx H (fun r=>∃w,r=ints w∧w.length≤500)):=AC.zz (spec_l06Commute_o a b ha hb hav hbv nx) H
end Go.Proofs.YtlcddiojeghfgaaGreatDoor
