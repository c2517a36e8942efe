import Derived.Test.YthncdadmkppclaaGreatDoorZ46
set_option linter.unusedVariables false
set_option linter.unusedSimpArgs false
namespace Go.Proofs.YthncdadmkppclaaGreatDoor
open Nat (reduceAdd reduceSub reduceGT reduceEqDiff reduceMul)
theorem AW.fzLC {cX:Ctx} {P:Program} {c:Code} {s:St} {K:Exit→St→Prop} {a b:Nat} (k:Nat) (L:AV) (cs:List AV) (hk:s.t[k]? =some L) (hL:LC s.H a b L cs)
    (hs:AW cX P c ⟨s.t.set k (.v cs.length cs),dl s.H L,s.nx⟩ K):AW cX P c s K:=by
  rcases hL with ⟨rfl,rfl⟩|⟨id,rfl,hc,_,_⟩
  · refine AW.fz (s':=⟨s.t.set k (.v 0 []),s.H,s.nx⟩) ⟨fzs_set hk .nl,?_,Nat.le_refl _⟩ hs
    intro id cs' h
    exact⟨cs',h,rfl,fun q x y h1 h2=>by rw[h1]at h2;cases h2;exact .refl _⟩
  · exact AW.freeze k id cs.length cs hk hc rfl hs
set_option maxRecDepth 20000 in
set_option maxHeartbeats 8000000 in
theorem impl_readPresentation_p (l:List UInt8) (s2:PD) (hl:l.length≤1048576) (h:ppI l=some s2) (hnn:(Lib.split l [59,32]).head?≠some [49]) (hcn:(Lib.split l [59,32]).length≤1000):ACow 2 Tryz.prog 38 [.s (ofL l)] (.t [prs s2.1 s2.2.1 s2.2.2,.b true]):=by
 have hpl:=split_sm l [59,32]
 unfold ppI at h
 split at h
 case isFalse=>cases h
 rename_i hcnt
 have hsl:=prs_len l [59,32] hcnt
 have hsB:=splitB_L l [59,32]
 generalize hps:Lib.split l [59,32]=ps0 at h hsB hpl hnn hcn
 rcases ps0 with _|⟨hd,ps⟩
 ·cases h
 simp only at h
 obtain⟨os,hos,h⟩:=Option.bind_eq_some_iff.1 h
 obtain⟨s,hst,h⟩:=Option.bind_eq_some_iff.1 h
 have hcond:presC s=true∧txC s.1 s.2.1 s.2.2=l:=by
  apply Classical.byContradiction;intro hn;rw[if_neg hn]at h;cases h
 rw[if_pos hcond]at h
 cases h
 have hok:=presC_ok hcond.1
 have hne:hd≠ [49]:=fun e=>hnn (by rw[e];rfl)
 obtain⟨ds,hds,h3⟩:=Option.bind_eq_some_iff.1 (show(digsC (spL 32 hd)).bind (fun os=>if os.length≤6∧prd os os.length≤729 then some os else none)=some os by rw[ordC,if_neg hne]at hos;exact hos)
 have hdo:ds=os∧os.length≤6:=by
  split at h3
  ·rename_i hc;cases h3;exact⟨rfl,hc.1⟩
  ·cases h3
 obtain⟨hdo,hos6⟩:=hdo
 rw[hdo]at hds
 obtain⟨hdl,hdg⟩:=digsC_at hds
 have hspl:ACp Tryz.prog 41 [.s (ofL hd),.s ⟨#[32]⟩] (strs ((spL 32 hd).map ofL)):=by
  have:=strings_Split_ok (ofL hd) 32 (by have:=hpl hd (by simp);rw[ofL_sz];omega)
  rwa [spw_L]at this
 have hpl2:=spL_len 32 hd
 rw[List.length_cons]at hcn
 have hhl:=hpl hd (by simp)
 have hpc:(spL 32 hd).length≤6:=by omega
 intro nx
 refine ACw.intro envOk Tryz.func38 rfl (by kernel_rfl) Tryz.ntmps38 Tryz.results38 (fun cX hcg _ _=> ?_)
 refine AW.sr envOk (fun N hN=> ?_)
 simp-dsimp-implicitDefEqProofs (disch:=(first|omega|((repeat refine LC.upd (by omega) ?_);assumption))) only[go_sem,undef,w64,one_sx]
 refine hN _ ?_
 try clear hN N
 refine AW.seq (fun N hN=> ?_)
 refine AW.regionX envOk 1 _ rfl rfl ?_
 simp-dsimp-implicitDefEqProofs (disch:=(first|omega|((repeat refine LC.upd (by omega) ?_);assumption))) only[List.take_succ_cons,List.take_zero,List.drop_succ_cons,List.drop_zero,List.take_nil,List.drop_nil,go_sem,undef,]
 refine XC.callw hcg rfl ?_
 refine(split_w (ofL l) (ofL [59,32]) (by rw[ofL_sz];omega) (by decide) hsl _ _).mono ?_
 rintro _ _ _ ⟨⟨rfl,rfl⟩,rfl⟩
 rw[hsB]
 try simp-dsimp-implicitDefEqProofs (disch:=(first|omega|((repeat refine LC.upd (by omega) ?_);assumption))) only[go_sem,undef,w64]
 refine hN _ ?_
 try clear hN N
 refine AW.sr envOk (fun N hN=> ?_)
 simp-dsimp-implicitDefEqProofs (disch:=(first|omega|((repeat refine LC.upd (by omega) ?_);assumption))) only[go_sem,undef,w64,one_sx]
 refine hN _ ?_
 try clear hN N
 refine AW.seq (fun N1 hN1=> ?_)
 refine AW.sr envOk (fun N hN=> ?_)
 simp-dsimp-implicitDefEqProofs (disch:=(first|omega|((repeat refine LC.upd (by omega) ?_);assumption))) only[go_sem,undef,w64,one_sx,strs]
 refine hN _ ?_
 try clear hN N
 refine AW.cond rfl (fun h1=> ?_) (fun h1=> ?_)
 ·try simp only[cn]at h1
  refine AW.sr envOk (fun N hN=> ?_)
  simp-dsimp-implicitDefEqProofs (disch:=(first|omega|((repeat refine LC.upd (by omega) ?_);assumption))) only[go_sem,undef,w64,one_sx,strs]
  refine AC.pure (.of (hspl)) ?_
  try simp-dsimp-implicitDefEqProofs (disch:=(first|omega|((repeat refine LC.upd (by omega) ?_);assumption))) only[go_sem,undef,w64,one_sx]
  refine hN _ ?_
  try clear hN N
  refine AW.block ?_
  refine AW.loopN (α:=Nat×HP×AV) (fun x=>sl 137 [(0,.s (ofL l)),(2,.q nx 0),(3,.b false),(4,strs ((hd::ps).map ofL)),(5,x.2.2),(35,strs ((spL 32 hd).map ofL)),(36,.i .i64 os.length),(37,.i .i64 x.1)]) (fun x=>x.2.1) (fun x m=>x.1≤os.length∧nx+1≤m∧x.2.1 nx=some [.nl,.nl,.nl]∧LC x.2.1 (nx+1) m x.2.2 ((os.take x.1).map (.i .i64))) (fun x=>os.length-x.1) ((0,upd noH nx (some [.nl,.nl,.nl]),.nl)) ?_ ?_ (fun _ _ h=>h) ?_
  ·exact⟨by simp,by first|omega|(simp only;omega)|(dsimp only;omega),upd_same _ _ _,.nil⟩
  ·simp(disch:=omega) [wks,wkA,sl,strs,hdl]
  ·skip
   rintro⟨k,G,L⟩ b0 ⟨hk,hm,hG0,hL⟩
   simp-dsimp-implicitDefEqProofs (disch:=(first|omega|((repeat refine LC.upd (by omega) ?_);assumption))) only[go_sem,undef]
   dsimp only at hk hm hG0 hL ⊢
   have hLo:=hL.one
   have hLl:=hL.len
   refine AW.sr envOk (fun N hN=> ?_)
   simp-dsimp-implicitDefEqProofs (disch:=(first|omega|((repeat refine LC.upd (by omega) ?_);assumption))) only[go_sem,undef,w64,one_sx,strs]
   refine hN _ ?_
   try clear hN N
   refine AW.seq (fun N2 hN2=> ?_)
   refine AW.cond rfl (fun h2=> ?_) (fun h2=> ?_)
   ·try simp only[cn]at h2
    have hkn:k<os.length:=by omega
    have hdk:=hdg k (by omega)
    have hpk:=digC_parse hdk
    have hsm:=hpl2 ((spL 32 hd).getD k []) (by simp[show k<(spL 32 hd).length by omega])
    have hg:=strs_ofL (spL 32 hd) (k:=k) (by omega)
    have hpi:=strconv_ParseInt_o (s:=ofL ((spL 32 hd).getD k [])) (v:=os.getD k 0) (by rw[ofL_sz];omega) (by rw[ofL_l];exact hpk)
    have hcl:((os.take k).map (AV.i .i64)).length=k:=by rw[List.length_map,List.length_take];omega
    have htk:os.take (k+1)=os.take k++[os.getD k 0]:=by
     rw[List.take_succ_eq_append_getElem (by omega)];simp[show k<os.length by omega]
    refine AW.skip ?_
    simp only[thn,blk]
    refine hN2 _ ?_
    try clear hN2 N2
    refine AW.seq (fun N3 hN3=> ?_)
    refine AW.block ?_
    refine AW.sr envOk (fun N hN=> ?_)
    simp-dsimp-implicitDefEqProofs (disch:=(first|omega|((repeat refine LC.upd (by omega) ?_);assumption))) only[go_sem,undef,w64,one_sx,strs,hg]
    refine hN _ ?_
    try clear hN N
    refine AW.sr envOk (fun N hN=> ?_)
    simp-dsimp-implicitDefEqProofs (disch:=(first|omega|((repeat refine LC.upd (by omega) ?_);assumption))) only[go_sem,undef,w64,one_sx]
    refine AC.pure (.of (hpi)) ?_
    try simp-dsimp-implicitDefEqProofs (disch:=(first|omega|((repeat refine LC.upd (by omega) ?_);assumption))) only[go_sem,undef,w64,one_sx]
    refine hN _ ?_
    try clear hN N
    refine AW.seq (fun N4 hN4=> ?_)
    refine AW.seq (fun N hN=> ?_)
    refine AW.regionX envOk 1 _ rfl rfl ?_
    simp-dsimp-implicitDefEqProofs (disch:=(first|omega|((repeat refine LC.upd (by omega) ?_);assumption))) only[List.take_succ_cons,List.take_zero,List.drop_succ_cons,List.drop_zero,List.take_nil,List.drop_nil,go_sem,undef,]
    refine XC.ops (by omega) (ifne_ok rfl rfl rfl (by kernel_rfl) ?_)
    try simp-dsimp-implicitDefEqProofs (disch:=(first|omega|((repeat refine LC.upd (by omega) ?_);assumption))) only[go_sem,undef,w64]
    refine hN _ ?_
    try clear hN N
    refine AW.condF rfl ?_
    refine AW.skip ?_
    simp only[thn,blk]
    refine hN4 _ ?_
    try clear hN4 N4
    refine AW.regionL envOk ?_
    simp-dsimp-implicitDefEqProofs (disch:=(first|omega|((repeat refine LC.upd (by omega) ?_);assumption))) only[go_sem,undef,w64,one_sx,hLo,hLl,hcl,apst_LC (a:=nx+1) (b:=b0) (L:=L) (cs:=(os.take k).map (.i .i64))]
    refine hN3 _ ?_
    try clear hN3 N3
    refine AW.nameH (fun G3 hG3=> ?_)
    dsimp only at hG3
    refine AW.regionL envOk ?_
    simp-dsimp-implicitDefEqProofs (disch:=(first|omega|((repeat refine LC.upd (by omega) ?_);assumption))) only[go_sem,undef,w64,one_sx]
    refine⟨(k+1,G3,.h (b0+1+3+7+2+3) 0 (k+1)),?_,fun _ _ h=>h,?_,?_⟩
    ·simp(disch:=omega) [wks,wkA,sl,strs,w64]
    ·have hmk:LC G3 (nx+1) (b0+1+3+7+2+5+2) (.h (b0+1+3+7+2+3) 0 (k+1)) ((os.take (k+1)).map (.i .i64)):=LC.mk (by rw[←hG3,htk,List.map_append];simp(disch:=omega) only[upd_same];rfl) (by rw[List.length_map,List.length_take];omega) (by omega) (by omega)
     have hG30:G3 nx=some [.nl,.nl,.nl]:=by
      rw[←hG3]
      exact(upd_ne _ _ (by omega)).trans ((dl_ne (fun e=>by have:=hL.bd;omega)).trans ((upd_ne _ _ (by omega)).trans hG0))
     first|exact⟨by first|omega|(simp only;omega)|(dsimp only;omega),by first|omega|(simp only;omega)|(dsimp only;omega),hG30,hmk⟩|exact⟨by first|omega|(simp only;omega)|(dsimp only;omega),hG30,hmk⟩
    ·first|omega|(simp only;omega)
   ·try simp only[cn]at h2
    have hke:k=os.length:=by omega
    rw[hke,List.take_length]at hL
    refine AW.exit ?_
    simp only[thn,blk,if_true]
    refine hN1 _ ?_
    try clear hN1 N1
    refine AW.fzLC 5 L (os.map (.i .i64)) rfl hL ?_
    have hdn:∀i,bk L≠i+1→dl G L i=G i:=fun i hi=>dl_ne hi
    have hG1:dl G L nx=some [.nl,.nl,.nl]:=(hdn nx (fun e=>by have:=hL.bd;omega)).trans hG0
    rw[List.length_map]
    generalize dl G L=G5 at hG1
    simp-dsimp-implicitDefEqProofs (disch:=(first|omega|((repeat refine LC.upd (by omega) ?_);assumption))) only[go_sem,undef]
    refine AW.sr envOk (fun N hN=> ?_)
    simp-dsimp-implicitDefEqProofs (disch:=(first|omega|((repeat refine LC.upd (by omega) ?_);assumption))) only[go_sem,undef,w64,one_sx]
    refine hN _ ?_
    try clear hN N
    refine AW.seq (fun N5 hN5=> ?_)
    refine AW.sr envOk (fun N hN=> ?_)
    simp-dsimp-implicitDefEqProofs (disch:=(first|omega|((repeat refine LC.upd (by omega) ?_);assumption))) only[go_sem,undef,w64,one_sx]
    refine hN _ ?_
    try clear hN N
    refine AW.cond rfl (fun h3=> ?_) (fun h3=> ?_)
    ·try simp only[cn]at h3
     omega
    ·try simp only[cn]at h3
     refine AW.skip ?_
     simp only[thn,blk]
     refine hN5 _ ?_
     try clear hN5 N5
     refine AW.sr envOk (fun N hN=> ?_)
     simp-dsimp-implicitDefEqProofs (disch:=(first|omega|((repeat refine LC.upd (by omega) ?_);assumption))) only[go_sem,undef,w64,one_sx]
     refine AC.mono2 (AC.frame (impl_trivialRelations_w os (by omega) _)) ?_
     rintro m1 H1 r1 hm1 ⟨H0,⟨r0,P,B,cp,cb,rfl,hW0⟩,hlow,hhigh⟩
     have hW1:=hW0.keep (fun j h1 h2=>hhigh j h1) (Nat.le_refl _)
     have h01:H1 nx=some [.nl,.nl,.nl]:=(hlow nx (by omega)).trans hG1
     clear hlow hhigh hW0
     have hr0:=hW1.r0
     have hP1:=hW1.2.1.one
     have hB1:=hW1.2.2.1.one
     try simp-dsimp-implicitDefEqProofs (disch:=(first|omega|((repeat refine LC.upd (by omega) ?_);assumption))) only[go_sem,undef,w64,hr0,hP1,hB1,Bool.and_true]
     refine hN _ ?_
     try clear hN N
     refine AW.seq (fun N6 hN6=> ?_)
     refine AW.nameH (fun G6 hG6=> ?_)
     dsimp only at hG6
     have h60:G6 nx=some [.nl,.nl,.nl]:=by rw[←hG6];exact(upd_ne _ _ (by omega)).trans h01
     have h6b:G6 (b0+1+3+2+2)=some [r0,P,B]:=by rw[←hG6];exact upd_same _ _ _
     have hW6:PgW (b0+1+3+2+4) m1 G6 r0 P B os (trP os.length) (trC os.length) cp cb:=hW1.keep (fun i h1 h2=>by rw[←hG6];exact upd_ne _ _ (by omega)) (Nat.le_refl _)
     refine AW.sr envOk (fun N hN=> ?_)
     simp-dsimp-implicitDefEqProofs (disch:=(first|omega|((repeat refine LC.upd (by omega) ?_);assumption))) only[go_sem,undef,w64,one_sx,strs]
     refine hN _ ?_
     try clear hN N
     refine AW.block ?_
     refine AW.loopN (α:=Nat×HP×PD) (fun x=>sl 137 [(0,.s (ofL l)),(2,.q nx 0),(3,.b false),(10,.i .i64 os.length),(11,.q (b0+1+3+2+2) 0),(62,strs (ps.map ofL)),(63,.i .i64 ps.length),(64,.i .i64 x.1)]) (fun x=>x.2.1) (fun x m=>x.1≤ps.length∧m1≤m∧x.2.1 nx=some [.nl,.nl,.nl]∧x.2.1 (b0+1+3+2+2)=some [r0,P,B]∧(stI (os,trP os.length,trC os.length) ps x.1=some x.2.2∧Shp os.length x.2.2.1 x.2.2.2.1 x.2.2.2.2∧x.2.2.1=os)∧∃cp cb,PgW (b0+1+3+2+4) m x.2.1 r0 P B x.2.2.1 x.2.2.2.1 x.2.2.2.2 cp cb) (fun x=>ps.length-x.1) ((0,G6,(os,trP os.length,trC os.length))) ?_ ?_ (fun _ _ h=>h) ?_
     ·exact⟨by simp,by first|omega|(simp only;omega)|(dsimp only;omega),h60,h6b,⟨rfl,trShp os hos6,rfl⟩,cp,cb,hW6.wide (Nat.le_refl _) (by first|omega|(simp only;omega)|(dsimp only;omega))⟩
     ·simp(disch:=omega) [wks,wkA,sl,strs];exact List.take_of_length_le (by simp)
     ·skip
      rintro⟨k,G,s⟩ m ⟨hk,hm,hG0,hGb,⟨hsk,hshp,hso⟩,cp',cb',hW⟩
      simp-dsimp-implicitDefEqProofs (disch:=(first|omega|((repeat refine LC.upd (by omega) ?_);assumption))) only[go_sem,undef]
      dsimp only at hk hm hG0 hGb hsk hshp hso hW ⊢
      refine AW.sr envOk (fun N hN=> ?_)
      simp-dsimp-implicitDefEqProofs (disch:=(first|omega|((repeat refine LC.upd (by omega) ?_);assumption))) only[go_sem,undef,w64,one_sx,strs]
      refine hN _ ?_
      try clear hN N
      refine AW.seq (fun N7 hN7=> ?_)
      refine AW.cond rfl (fun h4=> ?_) (fun h4=> ?_)
      ·try simp only[cn]at h4
       have hkn:k<ps.length:=by omega
       obtain⟨u,hu⟩:=stI_mono (s:=(os,trP os.length,trC os.length)) (ps:=ps) (ps.length-(k+1)) (k+1) (t:=s2) (by rw[show k+1+(ps.length-(k+1))=ps.length by omega];exact hst)
       have hu2:=hu
       rw[stI,hsk]at hu2
       have hu2:relI s (ps.getD k [])=some u:=hu2
       obtain⟨hshp2,hso2⟩:=relI_shp (n:=os.length) hu2 hos6 hshp
       have hpk:=hpl (ps.getD k []) (by simp[hkn])
       have hg:=strs_ofL ps (k:=k) hkn
       obtain⟨x,y,r,w,i,hc61,hc94,hw,hgx,hin,hrl,hcase⟩:=relI_at hu2
       rw[hshp.o]at hw hgx hin hcase
       have hcut1:=strings_Cut_ok (ps.getD k []) 61 (by omega)
       rw[hc61]at hcut1
       have hcut2:=strings_Cut_ok [x,94,y] 94 (by simp)
       rw[hc94]at hcut2
       have hgo1:=impl_generatorOf_ok os.length (by omega) [x] (by simp)
       rw[genR_yes hgx]at hgo1
       have hgo2:=impl_generatorOf_ok os.length (by omega) [y] (by simp)
       refine AW.skip ?_
       simp only[thn,blk]
       refine hN7 _ ?_
       try clear hN7 N7
       refine AW.seq (fun N8 hN8=> ?_)
       refine AW.block ?_
       refine AW.sr envOk (fun N hN=> ?_)
       simp-dsimp-implicitDefEqProofs (disch:=(first|omega|((repeat refine LC.upd (by omega) ?_);assumption))) only[go_sem,undef,w64,one_sx,strs,hg]
       refine hN _ ?_
       try clear hN N
       refine AW.sr envOk (fun N hN=> ?_)
       simp-dsimp-implicitDefEqProofs (disch:=(first|omega|((repeat refine LC.upd (by omega) ?_);assumption))) only[go_sem,undef,w64,one_sx]
       refine AC.pure (.of (hcut1)) ?_
       try simp-dsimp-implicitDefEqProofs (disch:=(first|omega|((repeat refine LC.upd (by omega) ?_);assumption))) only[go_sem,undef,w64,one_sx]
       refine hN _ ?_
       try clear hN N
       refine AW.sr envOk (fun N hN=> ?_)
       simp-dsimp-implicitDefEqProofs (disch:=(first|omega|((repeat refine LC.upd (by omega) ?_);assumption))) only[go_sem,undef,w64,one_sx]
       refine AC.pure (.of (hcut2)) ?_
       try simp-dsimp-implicitDefEqProofs (disch:=(first|omega|((repeat refine LC.upd (by omega) ?_);assumption))) only[go_sem,undef,w64,one_sx]
       refine hN _ ?_
       try clear hN N
       refine AW.sr envOk (fun N hN=> ?_)
       simp-dsimp-implicitDefEqProofs (disch:=(first|omega|((repeat refine LC.upd (by omega) ?_);assumption))) only[go_sem,undef,w64,one_sx]
       refine AC.mono2 (AC.frame (impl_exponentsOf_n os.length (by omega) r (by omega) w hw _)) ?_
       rintro m3 H3 r3 hm3 ⟨H0,⟨idv,rfl,hidv,hcv⟩,hlow,hhigh⟩
       have h3v:H3 idv=some ((vecC os.length w).map (.i .i64)):=(hhigh idv (by omega)).trans hcv
       have h30:H3 nx=some [.nl,.nl,.nl]:=(hlow nx (by omega)).trans hG0
       have h3b:H3 (b0+1+3+2+2)=some [r0,P,B]:=(hlow _ (by omega)).trans hGb
       have hW3:=hW.keep (fun j h1 h2=>hlow j (by omega)) (Nat.le_refl _)
       clear hlow hhigh
       try simp-dsimp-implicitDefEqProofs (disch:=(first|omega|((repeat refine LC.upd (by omega) ?_);assumption))) only[go_sem,undef,w64,one_sx]
       refine hN _ ?_
       try clear hN N
       refine AW.sr envOk (fun N hN=> ?_)
       simp-dsimp-implicitDefEqProofs (disch:=(first|omega|((repeat refine LC.upd (by omega) ?_);assumption))) only[go_sem,undef,w64,one_sx]
       refine AC.pure (.of (hgo1)) ?_
       try simp-dsimp-implicitDefEqProofs (disch:=(first|omega|((repeat refine LC.upd (by omega) ?_);assumption))) only[go_sem,undef,w64,one_sx]
       refine hN _ ?_
       try clear hN N
       refine AW.seq (fun N9 hN9=> ?_)
       refine AW.sr envOk (fun N hN=> ?_)
       simp-dsimp-implicitDefEqProofs (disch:=(first|omega|((repeat refine LC.upd (by omega) ?_);assumption))) only[go_sem,undef,w64,one_sx]
       refine hN _ ?_
       try clear hN N
       refine AW.condF rfl ?_
       refine AW.skip ?_
       simp only[thn,blk]
       refine hN9 _ ?_
       try clear hN9 N9
       refine AW.sr envOk (fun N hN=> ?_)
       simp-dsimp-implicitDefEqProofs (disch:=(first|omega|((repeat refine LC.upd (by omega) ?_);assumption))) only[go_sem,undef,w64,one_sx]
       refine AC.pure (.of hgo2) ?_
       rcases hcase with ⟨hg2,hu3⟩|⟨j,hg2,hj,hu3⟩
       ·skip
        rw[genR_no hg2]
        try simp-dsimp-implicitDefEqProofs (disch:=(first|omega|((repeat refine LC.upd (by omega) ?_);assumption))) only[go_sem,undef,w64]
        refine hN _ ?_
        try clear hN N
        refine AW.sr envOk (fun N hN=> ?_)
        simp-dsimp-implicitDefEqProofs (disch:=(first|omega|((repeat refine LC.upd (by omega) ?_);assumption))) only[go_sem,undef,w64,one_sx]
        refine hN _ ?_
        try clear hN N
        refine AW.condT rfl ?_
        obtain⟨p,hPe,hp,hcl2,hpb,hput⟩:=hW3.setP (k:=i) (by rw[hshp.p];exact hin)
        have h3b0:=h3b
        rw[hPe]at h3b
        rw[hshp.p]at h3b hcl2
        have h4m:=hput (upd H3 p (some (splice cp' i [.h idv 0 os.length]))) (.h idv 0 os.length) (vecC os.length w) [idv] (b0+1+3+2+4) (m3+8) (Ow.ints ((upd_ne _ _ (by omega)).trans h3v) (by rw[vecC_len])) (by simp) (fun q hq=>by rw[List.mem_singleton.1 hq];omega) (upd_same _ _ _) (fun q _ _ hq=>upd_ne _ _ hq) (by omega) (Nat.le_refl _)
        refine AW.regionL envOk ?_
        simp-dsimp-implicitDefEqProofs (disch:=(first|omega|((repeat refine LC.upd (by omega) ?_);assumption))) only[go_sem,undef,w64,one_sx,h3b,hp,hcl2,List.getD_cons_succ,List.getD_cons_zero]
        refine hN8 _ ?_
        try clear hN8 N8
        refine AW.nameH (fun G4 hG4=> ?_)
        dsimp only at hG4
        refine AW.regionL envOk ?_
        simp-dsimp-implicitDefEqProofs (disch:=(first|omega|((repeat refine LC.upd (by omega) ?_);assumption))) only[go_sem,undef,w64,one_sx]
        refine⟨(k+1,G4,u),?_,fun _ _ h=>h,?_,?_⟩
        ·simp(disch:=omega) [wks,wkA,sl,strs,w64]<;>rw[w64 (by omega) (by omega)]
        ·skip
         have h40:G4 nx=some [.nl,.nl,.nl]:=by rw[←hG4];exact(upd_ne _ _ (by omega)).trans h30
         have h4b:G4 (b0+1+3+2+2)=some [r0,P,B]:=by rw[←hG4];exact(upd_ne _ _ (by omega)).trans h3b0
         first|exact⟨by first|omega|(simp only;omega)|(dsimp only;omega),by first|omega|(simp only;omega)|(dsimp only;omega),h40,h4b,⟨hu,hshp2,hso2.trans hso⟩,_,_,by dsimp only;rw[hu3,←hG4];exact h4m.wide (Nat.le_refl _) (by first|omega|(simp only;omega)|(dsimp only;omega))⟩|exact⟨by first|omega|(simp only;omega)|(dsimp only;omega),h40,h4b,⟨hu,hshp2,hso2.trans hso⟩,_,_,by dsimp only;rw[hu3,←hG4];exact h4m.wide (Nat.le_refl _) (by first|omega|(simp only;omega)|(dsimp only;omega))⟩
        ·first|omega|(simp only;omega)
       ·skip
        rw[genR_yes hg2]
        try simp-dsimp-implicitDefEqProofs (disch:=(first|omega|((repeat refine LC.upd (by omega) ?_);assumption))) only[go_sem,undef,w64]
        refine hN _ ?_
        try clear hN N
        refine AW.sr envOk (fun N hN=> ?_)
        simp-dsimp-implicitDefEqProofs (disch:=(first|omega|((repeat refine LC.upd (by omega) ?_);assumption))) only[go_sem,undef,w64,one_sx]
        refine hN _ ?_
        try clear hN N
        refine AW.condF rfl ?_
        refine AW.sr envOk (fun N hN=> ?_)
        simp-dsimp-implicitDefEqProofs (disch:=(first|omega|((repeat refine LC.upd (by omega) ?_);assumption))) only[go_sem,undef,w64,one_sx]
        refine hN _ ?_
        try clear hN N
        refine AW.cond rfl (fun h5=> ?_) (fun h5=> ?_)
        ·try simp only[cn]at h5
         obtain⟨b,q,ds2,hBe,hbb,hcl3,hbb2,hqe,hdd,hdl2,hqb,hqn,hput⟩:=hW3.setB (k:=j) (l:=i-j-1) (by rw[hshp.c];omega) (by rw[hshp.r j (by omega)];omega)
         have h3b0:=h3b
         rw[hBe]at h3b
         rw[hshp.r j (by omega)]at hqe hdl2
         rw[hshp.c]at h3b hcl3
         have e2:((i:Int)-j-1).toNat=i-j-1:=by omega
         have h4m:=hput (upd H3 q (some (splice ds2 (i-j-1) [.h idv 0 os.length]))) (.h idv 0 os.length) (vecC os.length w) [idv] (b0+1+3+2+4) (m3+8) (Ow.ints ((upd_ne _ _ (by omega)).trans h3v) (by rw[vecC_len])) (by simp) (fun q hq=>by rw[List.mem_singleton.1 hq];omega) (upd_same _ _ _) (fun q' _ _ hq=>upd_ne _ _ hq) (by omega) (Nat.le_refl _)
         refine AW.regionL envOk ?_
         simp-dsimp-implicitDefEqProofs (disch:=(first|omega|((repeat refine LC.upd (by omega) ?_);assumption))) only[go_sem,undef,w64,one_sx,h3b,hbb,hqe,hdd,hcl3,hdl2,e2]
         refine hN8 _ ?_
         try clear hN8 N8
         refine AW.nameH (fun G4 hG4=> ?_)
         dsimp only at hG4
         refine AW.regionL envOk ?_
         simp-dsimp-implicitDefEqProofs (disch:=(first|omega|((repeat refine LC.upd (by omega) ?_);assumption))) only[go_sem,undef,w64,one_sx]
         refine⟨(k+1,G4,u),?_,fun _ _ h=>h,?_,?_⟩
         ·simp(disch:=omega) [wks,wkA,sl,strs,w64]<;>rw[w64 (by omega) (by omega)]
         ·skip
          have h40:G4 nx=some [.nl,.nl,.nl]:=by rw[←hG4];exact(upd_ne _ _ (by omega)).trans h30
          have h4b:G4 (b0+1+3+2+2)=some [r0,P,B]:=by rw[←hG4];exact(upd_ne _ _ (by omega)).trans h3b0
          first|exact⟨by first|omega|(simp only;omega)|(dsimp only;omega),by first|omega|(simp only;omega)|(dsimp only;omega),h40,h4b,⟨hu,hshp2,hso2.trans hso⟩,_,_,by dsimp only;rw[hu3,←hG4];exact h4m.wide (Nat.le_refl _) (by first|omega|(simp only;omega)|(dsimp only;omega))⟩|exact⟨by first|omega|(simp only;omega)|(dsimp only;omega),h40,h4b,⟨hu,hshp2,hso2.trans hso⟩,_,_,by dsimp only;rw[hu3,←hG4];exact h4m.wide (Nat.le_refl _) (by first|omega|(simp only;omega)|(dsimp only;omega))⟩
         ·first|omega|(simp only;omega)
        ·try simp only[cn]at h5
         omega
      ·try simp only[cn]at h4
       have hke:k=ps.length:=by omega
       rw[hke,hst]at hsk
       cases hsk
       have htf:tf (presOk s2.1 s2.2.1 s2.2.2)=true:=tf_t hok
       have hip:=impl_IsPresentation_ok s2.1 s2.2.1 s2.2.2 ⟨by have:=hshp.o;omega,ringlen.of hshp.pl hshp.cl⟩
       rw[htf]at hip
       have htx:=impl_presentationText_ok s2.1 s2.2.1 s2.2.2 hok
       rw[hcond.2]at htx
       obtain⟨ids,ho⟩:=hW.1.own
       have hvw:Vw G (.g [r0,P,B]) (prs s2.1 s2.2.1 s2.2.2):=ho.1.vw
       have hvq:Vw G (.q (b0+1+3+2+2) 0) (prsP s2.1 s2.2.1 s2.2.2):=by
        obtain⟨i0,i1,i2,⟨g0,g1,g2⟩,_⟩:=hW.1
        refine .q _ 0 [r0,P,B] [ints s2.1,rows s2.2.1,cubes s2.2.2] hGb rfl (fun k x y h1 h2=> ?_)
        match k,h1,h2 with
        |0,h1,h2=>cases h1;cases h2;exact g0.vw
        |1,h1,h2=>cases h1;cases h2;exact g1.vw
        |2,h1,h2=>cases h1;cases h2;exact g2.vw
       refine AW.exit ?_
       simp only[thn,blk,if_true]
       refine hN6 _ ?_
       try clear hN6 N6
       refine AW.seq (fun N10 hN10=> ?_)
       refine AW.sr envOk (fun N hN=> ?_)
       simp-dsimp-implicitDefEqProofs (disch:=(first|omega|((repeat refine LC.upd (by omega) ?_);assumption))) only[go_sem,undef,w64,one_sx,hGb]
       refine AC.pure (.lent (hip) (.cons hvw .nil) (.b _)) ?_
       try simp-dsimp-implicitDefEqProofs (disch:=(first|omega|((repeat refine LC.upd (by omega) ?_);assumption))) only[go_sem,undef,w64,Bool.not_true]
       refine AC.pure (.lent (htx) (.cons hvq .nil) (.s _)) ?_
       try simp-dsimp-implicitDefEqProofs (disch:=(first|omega|((repeat refine LC.upd (by omega) ?_);assumption))) only[go_sem,undef,w64,bne_selfB,beq_self_eq_true,Bool.not_true,decide_true,decide_not,decide_false,bne_self_eq_false]
       refine hN _ ?_
       try clear hN N
       refine AW.condF rfl ?_
       refine AW.skip ?_
       simp only[thn,blk]
       refine hN10 _ ?_
       try clear hN10 N10
       refine AW.sr envOk (fun N hN=> ?_)
       simp-dsimp-implicitDefEqProofs (disch:=(first|omega|((repeat refine LC.upd (by omega) ?_);assumption))) only[go_sem,undef,w64,one_sx,hGb,hG0,hr0,hP1,hB1,Bool.and_true]
       refine hN _ ?_
       try clear hN N
       refine AW.ret ?_
       simp-dsimp-implicitDefEqProofs (disch:=(first|omega|((repeat refine LC.upd (by omega) ?_);assumption))) only[go_sem,undef]
       have ho2:=ho.1.keep (H':=upd G nx (some [r0,P,B])) (fun i hi=>upd_ne _ _ (by have:=ho.2.2 i hi;omega))
       exact⟨_,.t _ _ _ (.cons _ _ _ _ _ _ ho2 (.cons _ _ _ _ _ _ (.leaf _ (.b _) (.b _)) .nil)),by simpa using ho.2.1,fun i hi=>by have:=ho.2.2 i (by simpa using hi);omega⟩
 ·try simp only[cn]at h1
  exact(hne (toL_eq.1 (show(ofL hd).toList=(⟨#[49]⟩:ByteArray).toList by simpa using h1))).elim
theorem split49:Lib.split [49] [59,32]=[[49]]:=by kernel_rfl
set_option maxRecDepth 20000 in
set_option maxHeartbeats 4000000 in
theorem impl_readPresentation_z:ACow 2 Tryz.prog 38 [.s (ofL [49])] (.t [prs [] [] [],.b true]):=by
 have hsl:=prs_len [49] [59,32] (by kernel_rfl)
 have hsB:=splitB_L [49] [59,32]
 rw[split49]at hsB
 intro nx
 refine ACw.intro envOk Tryz.func38 rfl (by kernel_rfl) Tryz.ntmps38 Tryz.results38 (fun cX hcg _ _=> ?_)
 refine AW.sr envOk (fun N hN=> ?_)
 simp-dsimp-implicitDefEqProofs (disch:=(first|omega|((repeat refine LC.upd (by omega) ?_);assumption))) only[go_sem,undef,w64,one_sx]
 refine hN _ ?_
 try clear hN N
 refine AW.seq (fun N hN=> ?_)
 refine AW.regionX envOk 1 _ rfl rfl ?_
 simp-dsimp-implicitDefEqProofs (disch:=(first|omega|((repeat refine LC.upd (by omega) ?_);assumption))) only[List.take_succ_cons,List.take_zero,List.drop_succ_cons,List.drop_zero,List.take_nil,List.drop_nil,go_sem,undef,]
 refine XC.callw hcg rfl ?_
 refine(split_w (ofL [49]) (ofL [59,32]) (by decide) (by decide) hsl _ _).mono ?_
 rintro _ _ _ ⟨⟨rfl,rfl⟩,rfl⟩
 rw[hsB]
 try simp-dsimp-implicitDefEqProofs (disch:=(first|omega|((repeat refine LC.upd (by omega) ?_);assumption))) only[go_sem,undef,w64]
 refine hN _ ?_
 try clear hN N
 refine AW.sr envOk (fun N hN=> ?_)
 simp-dsimp-implicitDefEqProofs (disch:=(first|omega|((repeat refine LC.upd (by omega) ?_);assumption))) only[go_sem,undef,w64,one_sx]
 refine hN _ ?_
 try clear hN N
 refine AW.seq (fun N1 hN1=> ?_)
 refine AW.sr envOk (fun N hN=> ?_)
 simp-dsimp-implicitDefEqProofs (disch:=(first|omega|((repeat refine LC.upd (by omega) ?_);assumption))) only[go_sem,undef,w64,one_sx,strs]
 refine hN _ ?_
 try clear hN N
 refine AW.cond rfl (fun h1=> ?_) (fun h1=> ?_)
 ·try simp only[cn]at h1
  exact absurd h1 (by simp[show(ofL [49]:ByteArray)=⟨#[49]⟩from rfl])
 ·try simp only[cn]at h1
  refine AW.skip ?_
  simp only[thn,blk]
  refine hN1 _ ?_
  try clear hN1 N1
  refine AW.fzLC (a:=0) (b:=0) 5 .nl [] rfl .nil ?_
  simp-dsimp-implicitDefEqProofs (disch:=(first|omega|((repeat refine LC.upd (by omega) ?_);assumption))) only[go_sem,undef]
  refine AW.sr envOk (fun N hN=> ?_)
  simp-dsimp-implicitDefEqProofs (disch:=(first|omega|((repeat refine LC.upd (by omega) ?_);assumption))) only[go_sem,undef,w64,one_sx]
  refine hN _ ?_
  try clear hN N
  refine AW.seq (fun N2 hN2=> ?_)
  refine AW.sr envOk (fun N hN=> ?_)
  simp-dsimp-implicitDefEqProofs (disch:=(first|omega|((repeat refine LC.upd (by omega) ?_);assumption))) only[go_sem,undef,w64,one_sx]
  refine hN _ ?_
  try clear hN N
  refine AW.cond rfl (fun h2=> ?_) (fun h2=> ?_)
  ·try simp only[cn]at h2
   simp at h2
  ·try simp only[cn]at h2
   refine AW.skip ?_
   simp only[thn,blk]
   refine hN2 _ ?_
   try clear hN2 N2
   refine AW.sr envOk (fun N hN=> ?_)
   simp-dsimp-implicitDefEqProofs (disch:=(first|omega|((repeat refine LC.upd (by omega) ?_);assumption))) only[go_sem,undef,w64,one_sx]
   refine AC.mono2 (AC.frame (impl_trivialRelations_w [] (by decide) _)) ?_
   rintro m1 H1 r1 hm1 ⟨H0,⟨r0,P,B,cp,cb,rfl,hW0⟩,hlow,hhigh⟩
   have hW1:=hW0.keep (fun j h1 h2=>hhigh j h1) (Nat.le_refl _)
   have h01:H1 nx=some [.nl,.nl,.nl]:=(hlow nx (by omega)).trans (upd_same _ _ _)
   clear hlow hhigh hW0
   have hr0:=hW1.r0
   have hP1:=hW1.2.1.one
   have hB1:=hW1.2.2.1.one
   try simp-dsimp-implicitDefEqProofs (disch:=(first|omega|((repeat refine LC.upd (by omega) ?_);assumption))) only[go_sem,undef,w64,hr0,hP1,hB1,Bool.and_true]
   refine hN _ ?_
   try clear hN N
   refine AW.seq (fun N3 hN3=> ?_)
   refine AW.nameH (fun G6 hG6=> ?_)
   dsimp only at hG6
   have h60:G6 nx=some [.nl,.nl,.nl]:=by rw[←hG6];exact(upd_ne _ _ (by omega)).trans h01
   have h6b:G6 (nx+2+3+1+4+3+2+2)=some [r0,P,B]:=by rw[←hG6];exact upd_same _ _ _
   have hW6:PgW (nx+2+3+1+4+3+2+4) m1 G6 r0 P B [] (trP 0) (trC 0) cp cb:=hW1.keep (fun i h1 h2=>by rw[←hG6];exact upd_ne _ _ (by omega)) (Nat.le_refl _)
   have hok:presOk [] [] []:=presC_ok (s:=([],[],[])) (by kernel_rfl)
   have hip:=impl_IsPresentation_ok [] [] [] ⟨by decide,ringlen.of (trShp [] (by decide)).pl (trShp [] (by decide)).cl⟩
   rw[tf_t hok]at hip
   have htx:=impl_presentationText_ok [] [] [] hok
   rw[show txC [] [] []=[49]from rfl]at htx
   obtain⟨ids,ho⟩:=hW6.1.own
   have hvw:Vw G6 (.g [r0,P,B]) (prs [] [] []):=ho.1.vw
   have hvq:Vw G6 (.q (nx+2+3+1+4+3+2+2) 0) (prsP [] [] []):=by
    obtain⟨i0,i1,i2,⟨g0,g1,g2⟩,_⟩:=hW6.1
    refine .q _ 0 [r0,P,B] [ints [],rows [],cubes []] h6b rfl (fun k x y h1 h2=> ?_)
    match k,h1,h2 with
    |0,h1,h2=>cases h1;cases h2;exact g0.vw
    |1,h1,h2=>cases h1;cases h2;exact g1.vw
    |2,h1,h2=>cases h1;cases h2;exact g2.vw
   refine AW.sr envOk (fun N hN=> ?_)
   simp-dsimp-implicitDefEqProofs (disch:=(first|omega|((repeat refine LC.upd (by omega) ?_);assumption))) only[go_sem,undef,w64,one_sx,strs]
   refine hN _ ?_
   try clear hN N
   refine AW.block ?_
   refine AW.loop1 ?_
   refine AW.sr envOk (fun N hN=> ?_)
   simp-dsimp-implicitDefEqProofs (disch:=(first|omega|((repeat refine LC.upd (by omega) ?_);assumption))) only[go_sem,undef,w64,one_sx]
   refine hN _ ?_
   try clear hN N
   refine AW.seq (fun N4 hN4=> ?_)
   refine AW.cond rfl (fun h=>absurd h (by first|(simp;done)|(simp only[decide_eq_true_eq];omega))) (fun _=> ?_)
   refine AW.exit ?_
   simp only[thn,blk,if_true]
   refine hN3 _ ?_
   try clear hN3 N3
   refine AW.seq (fun N5 hN5=> ?_)
   refine AW.sr envOk (fun N hN=> ?_)
   simp-dsimp-implicitDefEqProofs (disch:=(first|omega|((repeat refine LC.upd (by omega) ?_);assumption))) only[go_sem,undef,w64,one_sx,h6b]
   refine AC.pure (.lent (hip) (.cons hvw .nil) (.b _)) ?_
   try simp-dsimp-implicitDefEqProofs (disch:=(first|omega|((repeat refine LC.upd (by omega) ?_);assumption))) only[go_sem,undef,w64,Bool.not_true]
   refine AC.pure (.lent (htx) (.cons hvq .nil) (.s _)) ?_
   try simp-dsimp-implicitDefEqProofs (disch:=(first|omega|((repeat refine LC.upd (by omega) ?_);assumption))) only[go_sem,undef,w64,bne_selfB,beq_self_eq_true,Bool.not_true,decide_true,decide_not,decide_false,bne_self_eq_false]
   refine hN _ ?_
   try clear hN N
   refine AW.condF rfl ?_
   refine AW.skip ?_
   simp only[thn,blk]
   refine hN5 _ ?_
   try clear hN5 N5
   refine AW.sr envOk (fun N hN=> ?_)
   simp-dsimp-implicitDefEqProofs (disch:=(first|omega|((repeat refine LC.upd (by omega) ?_);assumption))) only[go_sem,undef,w64,one_sx,h6b,h60,hr0,hP1,hB1,Bool.and_true]
   refine hN _ ?_
   try clear hN N
   refine AW.ret ?_
   simp-dsimp-implicitDefEqProofs (disch:=(first|omega|((repeat refine LC.upd (by omega) ?_);assumption))) only[go_sem,undef]
   have ho2:=ho.1.keep (H':=upd G6 nx (some [r0,P,B])) (fun i hi=>upd_ne _ _ (by have:=ho.2.2 i hi;omega))
   exact⟨_,.t _ _ _ (.cons _ _ _ _ _ _ ho2 (.cons _ _ _ _ _ _ (.leaf _ (.b _) (.b _)) .nil)),by simpa using ho.2.1,fun i hi=>by have:=ho.2.2 i (by simpa using hi);omega⟩
end Go.Proofs.YthncdadmkppclaaGreatDoor
