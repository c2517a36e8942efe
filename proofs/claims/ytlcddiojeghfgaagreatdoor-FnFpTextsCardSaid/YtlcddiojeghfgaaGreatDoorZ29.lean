import Derived.Test.YtlcddiojeghfgaaGreatDoorZ28
set_option linter.unusedVariables false
set_option linter.unusedSimpArgs false
namespace Go.Proofs.YtlcddiojeghfgaaGreatDoor
open Nat (reduceAdd reduceSub reduceGT reduceEqDiff reduceMul)
theorem spl_ex (l:List UInt8):∃hd ps,spL 32 l=hd::ps:=by
  cases e:spL 32 l with
  |nil=>exact absurd e (spL_ne _ _)
  |cons x xs=>exact⟨x,xs,rfl⟩
theorem wdsI_take {n:Nat} {ps:List (List UInt8)} {k:Nat} (h:k<ps.length):((wdsI n ps).take (k+1)).map ints=((wdsI n ps).take k).map ints++[ints (rdL n (ps.getD k []))]:=by
  rw[List.take_succ_eq_append_getElem (by unfold wdsI;rw[List.length_map];exact h),List.map_append]
  simp[wdsI,h]
theorem wdsI_rl {n:Nat} (hn:n≤4) {ps:List (List UInt8)} (h1:ps.length≤1048576) (h2:∀k,(ps.getD k []).length≤1048576):rowslen (wdsI n ps):=by
  rw[←wds_eq hn];exact wdsP_rl h1 h2
set_option maxHeartbeats 4000000 in
theorem impl_ParseFp_bad (l hd:List UInt8) (ps:List (List UInt8)) (hl:l.length≤1048576) (hs:spL 32 l=hd::ps) (hv:∀v,Lib.parseIntB 64 hd≠ .ok v):ACov erV Tryz.prog 9 [.s (ofL l)] (resF ((0,[]),6)):=by
 have hsp2:ACp Tryz.prog 18 [.s (ofL l),.s ⟨#[32]⟩] (strs ((hd::ps).map ofL)):=by
  have:=strings_Split_ok (ofL l) 32 (by rw[ofL_sz];omega)
  rwa [spw_L,hs]at this
 obtain⟨z1,z2,z3⟩:=spL_sml hs hl
 intro nx
 refine ACv.intro envOk Tryz.func9 rfl (by kernel_rfl) Tryz.ntmps9 Tryz.results9 (fun cX hcg _ _=> ?_)
 refine AW.sr envOk (fun N hN=> ?_)
 simp-dsimp-implicitDefEqProofs (disch:=(first|omega|((repeat refine LC.upd (by omega) ?_);assumption))) only[go_sem,undef,w64,strs]
 refine hN _ ?_
 try clear hN N
 refine AW.sr envOk (fun N hN=> ?_)
 simp-dsimp-implicitDefEqProofs (disch:=(first|omega|((repeat refine LC.upd (by omega) ?_);assumption))) only[go_sem,undef,w64,strs]
 refine AC.pure (.of (hsp2)) ?_
 try simp-dsimp-implicitDefEqProofs (disch:=(first|omega|((repeat refine LC.upd (by omega) ?_);assumption))) only[go_sem,undef,w64,strs]
 refine hN _ ?_
 try clear hN N
 refine AW.seq (fun N hN=> ?_)
 refine AW.regionX envOk 3 _ rfl rfl ?_
 simp-dsimp-implicitDefEqProofs (disch:=(first|omega|((repeat refine LC.upd (by omega) ?_);assumption))) only[List.take_succ_cons,List.take_zero,List.drop_succ_cons,List.drop_zero,List.take_nil,List.drop_nil,go_sem,undef,strs,w64]
 refine XC.callv hcg rfl ?_
 refine(parseInt_bad (ofL hd) (by rw[ofL_sz];omega) hv _ _).mono ?_
 rintro _ _ _ ⟨⟨rfl,rfl⟩,z,te,pe,rfl⟩
 try simp-dsimp-implicitDefEqProofs (disch:=(first|omega|((repeat refine LC.upd (by omega) ?_);assumption))) only[go_sem,undef,w64]
 refine hN _ ?_
 try clear hN N
 refine AW.sr envOk (fun N hN=> ?_)
 simp-dsimp-implicitDefEqProofs (disch:=(first|omega|((repeat refine LC.upd (by omega) ?_);assumption))) only[go_sem,undef,w64,strs]
 refine hN _ ?_
 try clear hN N
 refine AW.seq (fun N1 hN1=> ?_)
 refine AW.seq (fun N hN=> ?_)
 refine AW.regionX envOk 1 _ rfl rfl ?_
 simp-dsimp-implicitDefEqProofs (disch:=(first|omega|((repeat refine LC.upd (by omega) ?_);assumption))) only[List.take_succ_cons,List.take_zero,List.drop_succ_cons,List.drop_zero,List.take_nil,List.drop_nil,go_sem,undef,]
 refine XC.ops (by omega) (ifne_yes rfl rfl rfl (by kernel_rfl) ?_)
 try simp-dsimp-implicitDefEqProofs (disch:=(first|omega|((repeat refine LC.upd (by omega) ?_);assumption))) only[go_sem,undef,w64]
 refine hN _ ?_
 try clear hN N
 refine AW.condT rfl ?_
 refine AW.sr envOk (fun N hN=> ?_)
 simp-dsimp-implicitDefEqProofs (disch:=(first|omega|((repeat refine LC.upd (by omega) ?_);assumption))) only[go_sem,undef,w64,strs]
 refine hN _ ?_
 try clear hN N
 refine AW.ret ?_
 simp-dsimp-implicitDefEqProofs (disch:=(first|omega|((repeat refine LC.upd (by omega) ?_);assumption))) only[go_sem,undef]
 exact Own.nilF
set_option maxHeartbeats 4000000 in
theorem impl_ParseFp_num (l hd:List UInt8) (ps:List (List UInt8)) (hl:l.length≤1048576) (hs:spL 32 l=hd::ps) (v:Int) (hv:Lib.parseIntB 64 hd= .ok v):ACo Tryz.prog 9 [.s (ofL l)] (resF (irV v ps l)):=by
 have hsp2:ACp Tryz.prog 18 [.s (ofL l),.s ⟨#[32]⟩] (strs ((hd::ps).map ofL)):=by
  have:=strings_Split_ok (ofL l) 32 (by rw[ofL_sz];omega)
  rwa [spw_L,hs]at this
 obtain⟨z1,z2,z3⟩:=spL_sml hs hl
 have hpi:=strconv_ParseInt_o (s:=ofL hd) (v:=v) (by rw[ofL_sz];omega) hv
 intro nx
 refine AC.intro' envOk Tryz.func9 rfl (by kernel_rfl) Tryz.ntmps9 Tryz.results9 (fun cX=> ?_)
 refine AW.sr envOk (fun N hN=> ?_)
 simp-dsimp-implicitDefEqProofs (disch:=(first|omega|((repeat refine LC.upd (by omega) ?_);assumption))) only[go_sem,undef,w64,strs]
 refine hN _ ?_
 try clear hN N
 refine AW.sr envOk (fun N hN=> ?_)
 simp-dsimp-implicitDefEqProofs (disch:=(first|omega|((repeat refine LC.upd (by omega) ?_);assumption))) only[go_sem,undef,w64,strs]
 refine AC.pure (.of (hsp2)) ?_
 try simp-dsimp-implicitDefEqProofs (disch:=(first|omega|((repeat refine LC.upd (by omega) ?_);assumption))) only[go_sem,undef,w64,strs]
 refine hN _ ?_
 try clear hN N
 refine AW.sr envOk (fun N hN=> ?_)
 simp-dsimp-implicitDefEqProofs (disch:=(first|omega|((repeat refine LC.upd (by omega) ?_);assumption))) only[go_sem,undef,w64,strs]
 refine AC.pure (.of (hpi)) ?_
 try simp-dsimp-implicitDefEqProofs (disch:=(first|omega|((repeat refine LC.upd (by omega) ?_);assumption))) only[go_sem,undef,w64,strs]
 refine hN _ ?_
 try clear hN N
 refine AW.sr envOk (fun N hN=> ?_)
 simp-dsimp-implicitDefEqProofs (disch:=(first|omega|((repeat refine LC.upd (by omega) ?_);assumption))) only[go_sem,undef,w64,strs]
 refine hN _ ?_
 try clear hN N
 refine AW.seq (fun N1 hN1=> ?_)
 refine AW.seq (fun N hN=> ?_)
 refine AW.regionX envOk 1 _ rfl rfl ?_
 simp-dsimp-implicitDefEqProofs (disch:=(first|omega|((repeat refine LC.upd (by omega) ?_);assumption))) only[List.take_succ_cons,List.take_zero,List.drop_succ_cons,List.drop_zero,List.take_nil,List.drop_nil,go_sem,undef,]
 refine XC.ops (by omega) (ifne_ok rfl rfl rfl (by kernel_rfl) ?_)
 try simp-dsimp-implicitDefEqProofs (disch:=(first|omega|((repeat refine LC.upd (by omega) ?_);assumption))) only[go_sem,undef,w64]
 refine AC.pure (.of (impl_inside_ok v 0 4)) ?_
 try simp-dsimp-implicitDefEqProofs (disch:=(first|omega|((repeat refine LC.upd (by omega) ?_);assumption))) only[go_sem,undef,w64]
 refine hN _ ?_
 try clear hN N
 refine AW.cond rfl (fun h1=> ?_) (fun h1=> ?_)
 ·try simp only[cn]at h1
  have hno:¬(0≤v∧fgI v.toNat ps l):=fun h=>by have:=h.2.1.1.1;omega
  refine AW.sr envOk (fun N hN=> ?_)
  simp-dsimp-implicitDefEqProofs (disch:=(first|omega|((repeat refine LC.upd (by omega) ?_);assumption))) only[go_sem,undef,w64,strs]
  refine hN _ ?_
  try clear hN N
  refine AW.ret ?_
  simp-dsimp-implicitDefEqProofs (disch:=(first|omega|((repeat refine LC.upd (by omega) ?_);assumption))) only[go_sem,undef]
  rw[irV_no hno]
  exact Own.nilF
 ·try simp only[cn]at h1
  obtain⟨n,rfl⟩:∃n:Nat,v=n:=⟨v.toNat,by omega⟩
  have hn4:n≤4:=by omega
  refine AW.skip ?_
  simp only[thn,blk]
  refine hN1 _ ?_
  try clear hN1 N1
  refine AW.seq (fun N2 hN2=> ?_)
  refine AW.nameH (fun G0 hG0=> ?_)
  dsimp only at hG0
  have h00:G0 nx=some [.i .i64 0,.nl]:=by rw[←hG0];simp(disch:=omega) only[upd_ne,upd_same]
  have h0b:G0 (nx+2+3+9+2)=some [.i .i64 n,.nl]:=by rw[←hG0];simp(disch:=omega) only[upd_ne,upd_same]
  refine AW.sr envOk (fun N hN=> ?_)
  simp-dsimp-implicitDefEqProofs (disch:=(first|omega|((repeat refine LC.upd (by omega) ?_);assumption))) only[go_sem,undef,w64,strs]
  refine hN _ ?_
  try clear hN N
  refine AW.block ?_
  refine AW.loopN (α:=Nat×HP×AV×List AV) (fun x=>sl 64 [(0,.s (ofL l)),(2,.q nx 0),(3,.i .i64 0),(5,.i .i64 n),(7,.q (nx+2+3+9+2) 0),(32,strs (ps.map ofL)),(33,.i .i64 ps.length),(34,.i .i64 x.1)]) (fun x=>x.2.1) (fun x m=>(x.1≤ps.length∧nx+20≤m)∧(x.2.1 nx=some [.i .i64 0,.nl]∧x.2.1 (nx+2+3+9+2)=some [.i .i64 n,x.2.2.1])∧OLi (nx+20) m x.2.1 x.2.2.1 x.2.2.2 (((wdsI n ps).take x.1).map ints)∧∀j,j<x.1→rdB n (ps.getD j [])=true) (fun x=>ps.length-x.1) ((0,G0,.nl,[])) ?_ ?_ (fun _ _ h=>h) ?_
  ·exact⟨⟨by simp,by first|omega|(simp only;omega)|(dsimp only;omega)⟩,⟨h00,h0b⟩,.nil,fun k hk=>by omega⟩
  ·simp(disch:=omega) [wks,wkA,sl,strs];exact List.take_of_length_le (by simp)
  ·skip
   rintro⟨k,G,L,cs⟩ m ⟨⟨hk,hm⟩,⟨hG0,hGb⟩,hB,hgo⟩
   simp-dsimp-implicitDefEqProofs (disch:=(first|omega|((repeat refine LC.upd (by omega) ?_);assumption))) only[go_sem,undef]
   dsimp only at hk hm hG0 hGb hB hgo ⊢
   have hL:=hB.1
   have hLo:=hL.one
   have hLl:=hL.len
   have hcl:cs.length=k:=by rw[hB.len,List.length_map,List.length_take];unfold wdsI;rw[List.length_map];omega
   refine AW.sr envOk (fun N hN=> ?_)
   simp-dsimp-implicitDefEqProofs (disch:=(first|omega|((repeat refine LC.upd (by omega) ?_);assumption))) only[go_sem,undef,w64,strs]
   refine hN _ ?_
   try clear hN N
   refine AW.seq (fun N3 hN3=> ?_)
   refine AW.cond rfl (fun h2=> ?_) (fun h2=> ?_)
   ·try simp only[cn]at h2
    have hkn:k<ps.length:=by omega
    have hg:=strs_ofL ps (k:=k) hkn
    have z4:=z3 k
    refine AW.skip ?_
    simp only[thn,blk]
    refine hN3 _ ?_
    try clear hN3 N3
    refine AW.seq (fun N4 hN4=> ?_)
    refine AW.block ?_
    refine AW.sr envOk (fun N hN=> ?_)
    simp-dsimp-implicitDefEqProofs (disch:=(first|omega|((repeat refine LC.upd (by omega) ?_);assumption))) only[go_sem,undef,w64,strs,hg]
    refine hN _ ?_
    try clear hN N
    refine AW.sr envOk (fun N hN=> ?_)
    simp-dsimp-implicitDefEqProofs (disch:=(first|omega|((repeat refine LC.upd (by omega) ?_);assumption))) only[go_sem,undef,w64,strs]
    refine AC.own (impl_readWord_o n hn4 (ps.getD k []) (by omega)) (.cons (.refl _) (.cons (.refl _) .nil)) ?_
    intro m1 H1 r0 ids1 hm1 hH1 hown0
    obtain⟨r1,rfl,hown1⟩:=hown0.1.pairB_inv
    obtain⟨q1,q2,q3⟩:=hown1.slice
    have hr1:=one_list q2
    have hGb1:H1 (nx+2+3+9+2)=some [.i .i64 n,L]:=(hH1 _ (by omega)).trans hGb
    have hG01:H1 nx=some [.i .i64 0,.nl]:=(hH1 _ (by omega)).trans hG0
    have hB1:=hB.keep (H':=H1) (fun i h1 h2=>hH1 i (by omega)) (Nat.le_refl _)
    have hL1:=hB1.1
    try simp-dsimp-implicitDefEqProofs (disch:=(first|omega|((repeat refine LC.upd (by omega) ?_);assumption))) only[go_sem,undef,q1,q2,q3,hr1,strs,w64]
    refine hN _ ?_
    try clear hN N
    refine AW.seq (fun N5 hN5=> ?_)
    refine AW.sr envOk (fun N hN=> ?_)
    simp-dsimp-implicitDefEqProofs (disch:=(first|omega|((repeat refine LC.upd (by omega) ?_);assumption))) only[go_sem,undef,w64,strs]
    refine hN _ ?_
    try clear hN N
    refine AW.cond rfl (fun h3=> ?_) (fun h3=> ?_)
    ·try simp only[cn]at h3
     have hno:¬(0≤(n:Int)∧fgI (n:Int).toNat ps l):=fun h=>by
      have:=h.2.1.1.2 k hkn
      rw[Int.toNat_natCast,h3]at this;cases this
     refine AW.sr envOk (fun N hN=> ?_)
     simp-dsimp-implicitDefEqProofs (disch:=(first|omega|((repeat refine LC.upd (by omega) ?_);assumption))) only[go_sem,undef,w64,strs,hG01,hGb1]
     refine hN _ ?_
     try clear hN N
     refine AW.ret ?_
     simp-dsimp-implicitDefEqProofs (disch:=(first|omega|((repeat refine LC.upd (by omega) ?_);assumption))) only[go_sem,undef]
     rw[irV_no hno]
     exact Own.nilF
    ·try simp only[cn]at h3
     have hgo2:∀j,j<k+1→rdB n (ps.getD j [])=true:=fun j hj=>by
      by_cases e:j=k
      ·rw[e];exact h3
      ·exact hgo j (by omega)
     refine AW.skip ?_
     simp only[thn,blk]
     refine hN5 _ ?_
     try clear hN5 N5
     have hdb:dl (upd H1 (m1+2+3) (some [r1])) L (nx+2+3+9+2)=some [.i .i64 n,L]:=(dl_ne (fun e=>by have:=hL.bd;omega)).trans ((upd_ne _ _ (by omega)).trans hGb1)
     refine AW.regionL envOk ?_
     simp-dsimp-implicitDefEqProofs (disch:=(first|omega|((repeat refine LC.upd (by omega) ?_);assumption))) only[go_sem,undef,w64,strs,hGb1,hLo,hLl,hcl,hdb,hr1,q1,q2,q3,apst_LC (a:=nx+20) (b:=m) (L:=L) (cs:=cs)]
     refine hN4 _ ?_
     try clear hN4 N4
     refine AW.nameH (fun G3 hG3=> ?_)
     dsimp only at hG3
     have hlow3:∀i,i<m1→i≠nx+2+3+9+2→bk L≠i+1→G3 i=H1 i:=fun i h1 h2 h3=>by
      rw[←hG3]
      exact(upd_ne _ _ h2).trans ((upd_ne _ _ (by omega)).trans ((dl_ne h3).trans (upd_ne _ _ (by omega))))
     refine AW.regionL envOk ?_
     simp-dsimp-implicitDefEqProofs (disch:=(first|omega|((repeat refine LC.upd (by omega) ?_);assumption))) only[go_sem,undef,w64,strs]
     refine⟨(k+1,G3,.h (m1+2+4) 0 (k+1),cs++[r1]),?_,fun _ _ h=>h,?_,?_⟩
     ·simp(disch:=omega) [wks,wkA,sl,strs,w64]
     ·have hb:=hown0.2.2
      have hpush:=hB1.push (H':=G3) (m':=m1+2+7+2) (id:=m1+2+4) (hown1.keep (H':=G3) (fun i hi=>hlow3 i (by have:=hb i hi;omega) (by have:=hb i hi;omega) (fun e=>by have:=hb i hi;have:=hL.bd;omega))) hown0.2.1 (fun i hi=>by have:=hb i hi;omega) (by rw[←hG3];exact(upd_ne _ _ (by omega)).trans (upd_same _ _ _)) (by omega) (fun hi=>by have:=hb _ hi;omega) (by omega) (fun i h1 h2 h3=>hlow3 i (by omega) (by omega) h3)
      rw[hcl,←wdsI_take hkn]at hpush
      have hG30:G3 nx=some [.i .i64 0,.nl]:=(hlow3 nx (by omega) (by omega) (fun e=>by have:=hL.bd;omega)).trans hG01
      have hG3b:G3 (nx+2+3+9+2)=some [.i .i64 n,.h (m1+2+4) 0 (k+1)]:=by rw[←hG3];exact upd_same _ _ _
      first|exact⟨⟨by first|omega|(simp only;omega)|(dsimp only;omega),by first|omega|(simp only;omega)|(dsimp only;omega)⟩,⟨hG30,hG3b⟩,hpush,hgo2⟩|exact⟨by first|omega|(simp only;omega)|(dsimp only;omega),⟨hG30,hG3b⟩,hpush,hgo2⟩
     ·first|omega|(simp only;omega)
   ·try simp only[cn]at h2
    have hke:k=ps.length:=by omega
    rw[hke,List.take_of_length_le (by unfold wdsI;simp)]at hB
    rw[hke]at hgo
    obtain⟨-,idsB,ho,hnd,hbd⟩:=hB
    have ho2:Ow G L (rows (wdsI n ps)) idsB:=by rw[rows_v];exact ho
    have hvr:=ho2.vw
    have hrl:=wdsI_rl hn4 z2 z3
    have hvq:Vw G (.q (nx+2+3+9+2) 0) (.p 0 [.i .i64 n,rows (wdsI n ps)]):=by
     refine .q _ 0 [.i .i64 n,L] [.i .i64 n,rows (wdsI n ps)] hGb rfl (fun k x y h1 h2=> ?_)
     match k,h1,h2 with
     |0,h1,h2=>cases h1;cases h2;exact .refl _
     |1,h1,h2=>cases h1;cases h2;exact hvr
    refine AW.exit ?_
    simp only[thn,blk,if_true]
    refine hN2 _ ?_
    try clear hN2 N2
    refine AW.seq (fun N6 hN6=> ?_)
    refine AW.sr envOk (fun N hN=> ?_)
    simp-dsimp-implicitDefEqProofs (disch:=(first|omega|((repeat refine LC.upd (by omega) ?_);assumption))) only[go_sem,undef,w64,strs,hGb,hLo]
    refine AC.pure (.lent (impl_IsFpGroup_ok n (wdsI n ps) hrl) (.cons (Vw.fp hvr) .nil) (.b _)) ?_
    try simp-dsimp-implicitDefEqProofs (disch:=(first|omega|((repeat refine LC.upd (by omega) ?_);assumption))) only[go_sem,undef,w64,strs]
    refine gopB.mk' (fun h4=> ?_) (fun h4=> ?_)
    ·try simp only[cn]at h4
     have hfq:fpP n (wdsI n ps):=h4
     try simp-dsimp-implicitDefEqProofs (disch:=(first|omega|((repeat refine LC.upd (by omega) ?_);assumption))) only[go_sem,undef,w64,strs]
     refine AC.pure (.lent (impl_fpText_ok n (wdsI n ps) hfq.1 hfq.2.1 (fun k hk=>(hfq.2.2 k hk).1)) (.cons hvq .nil) (.s _)) ?_
     try simp-dsimp-implicitDefEqProofs (disch:=(first|omega|((repeat refine LC.upd (by omega) ?_);assumption))) only[go_sem,undef,w64,strs]
     refine hN _ ?_
     try clear hN N
     refine AW.cond rfl (fun h5=> ?_) (fun h5=> ?_)
     ·try simp only[cn]at h5
      have hno:¬(0≤(n:Int)∧fgI (n:Int).toNat ps l):=fun h=>by
       have:=h.2.2
       rw[Int.toNat_natCast]at this
       exact h5 this
      refine AW.sr envOk (fun N hN=> ?_)
      simp-dsimp-implicitDefEqProofs (disch:=(first|omega|((repeat refine LC.upd (by omega) ?_);assumption))) only[go_sem,undef,w64,strs,hG0]
      refine hN _ ?_
      try clear hN N
      refine AW.ret ?_
      simp-dsimp-implicitDefEqProofs (disch:=(first|omega|((repeat refine LC.upd (by omega) ?_);assumption))) only[go_sem,undef]
      rw[irV_no hno]
      exact Own.nilF
     ·try simp only[cn]at h5
      have hq:fgI n ps l:=⟨⟨⟨hn4,hgo⟩,hfq⟩,h5⟩
      refine AW.skip ?_
      simp only[thn,blk]
      refine hN6 _ ?_
      try clear hN6 N6
      refine AW.sr envOk (fun N hN=> ?_)
      simp-dsimp-implicitDefEqProofs (disch:=(first|omega|((repeat refine LC.upd (by omega) ?_);assumption))) only[go_sem,undef,w64,strs,hGb,hG0,hLo]
      refine hN _ ?_
      try clear hN N
      refine AW.ret ?_
      simp-dsimp-implicitDefEqProofs (disch:=(first|omega|((repeat refine LC.upd (by omega) ?_);assumption))) only[go_sem,undef]
      rw[irV_yes hq]
      obtain⟨ids',h⟩:=Own.fp (g:=(n:Int)) (a:=nx) (b:=m+1+8+3) (H:=upd G nx (some [.i .i64 n,L])) (r:=L) (rs:=wdsI n ps) (ids:=idsB) ⟨ho2.keep fun i hi=>upd_ne _ _ (by have:=hbd i hi;omega),hnd,fun i hi=>by have:=hbd i hi;omega⟩
      exact h.pair
    ·try simp only[cn]at h4
     have hno:¬(0≤(n:Int)∧fgI (n:Int).toNat ps l):=fun h=>by
      have:=h.2.1.2
      rw[Int.toNat_natCast]at this
      exact h4 this
     try simp-dsimp-implicitDefEqProofs (disch:=(first|omega|((repeat refine LC.upd (by omega) ?_);assumption))) only[go_sem,undef,w64,strs]
     refine hN _ ?_
     try clear hN N
     refine AW.condT rfl ?_
     refine AW.sr envOk (fun N hN=> ?_)
     simp-dsimp-implicitDefEqProofs (disch:=(first|omega|((repeat refine LC.upd (by omega) ?_);assumption))) only[go_sem,undef,w64,strs,hG0]
     refine hN _ ?_
     try clear hN N
     refine AW.ret ?_
     simp-dsimp-implicitDefEqProofs (disch:=(first|omega|((repeat refine LC.upd (by omega) ?_);assumption))) only[go_sem,undef]
     rw[irV_no hno]
     exact Own.nilF
theorem impl_ParseFp_o (l:List UInt8) (hl:l.length≤1048576):ACov erV Tryz.prog 9 [.s (ofL l)] (resF (fgM l)):=by
  obtain⟨hd,ps,hs⟩:=spl_ex l
  rw[show fgM l=fgH hd ps by unfold fgM;rw[hs]]
  by_cases hv:∃v,Lib.parseIntB 64 hd= .ok v
  · obtain⟨v,hv⟩:=hv
    rw[←irV_eq hs hv]
    exact fun nx=>(impl_ParseFp_num l hd ps hl hs v hv nx).vv
  · rw[fgH_bad (fun v h=>hv ⟨v,h⟩)]
    exact impl_ParseFp_bad l hd ps hl hs (fun v h=>hv ⟨v,h⟩)
end Go.Proofs.YtlcddiojeghfgaaGreatDoor
