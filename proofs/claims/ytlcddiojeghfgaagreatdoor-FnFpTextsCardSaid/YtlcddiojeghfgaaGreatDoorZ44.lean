import Derived.Test.YtlcddiojeghfgaaGreatDoorZ43
set_option linter.unusedVariables false
set_option linter.unusedSimpArgs false
namespace Go.Proofs.YtlcddiojeghfgaaGreatDoor
open Nat (reduceAdd reduceSub reduceGT reduceEqDiff reduceMul)
theorem FzH.cellx {H:HP} {i j n k:Nat} {cs ds:List AV} (h1:H i=some cs) (hk:cs[k]? =some (.h j 0 n)) (h2:H j=some ds) (hn:ds.length=n) (hij:i≠j):FzH H (upd (upd H j none) i (some (cs.set k (.v n ds)))):=by
  intro l cs' hl
  by_cases e:l=i
  · subst e
    rw[upd_same]at hl;cases hl
    refine⟨_,h1,by simp,fun q x y hx hy=> ?_⟩
    rw[List.getElem?_set]at hy
    split at hy
    · rename_i hq
      subst hq
      rw[hk]at hx;cases hx
      split at hy
      · cases hy
        exact .h j 0 n ds ds h2 (by rw[upd_ne _ _ (Ne.symm hij),upd_same]) (by omega) hn (fun q x y h1 h2=>by rw[Nat.zero_add,h2]at h1;cases h1;exact .refl _)
      · cases hy
    · rw[hx]at hy;cases hy;exact .refl _
  · rw[upd_ne _ _ e]at hl
    by_cases e2:l=j
    · subst e2;rw[upd_same]at hl;cases hl
    · rw[upd_ne _ _ e2]at hl
      exact⟨cs',hl,rfl,fun q x y h1 h2=>by rw[h1]at h2;cases h2;exact .refl _⟩
theorem AW.fzcellx {cX:Ctx} {P:Program} {c:Code} {s:St} {K:Exit→St→Prop} (i j n k:Nat) (cs ds:List AV) (h1:s.H i=some cs) (hk:cs[k]? =some (.h j 0 n)) (h2:s.H j=some ds) (hn:ds.length=n) (hij:i≠j)
    (hs:AW cX P c ⟨s.t,upd (upd s.H j none) i (some (cs.set k (.v n ds))),s.nx⟩ K):AW cX P c s K:=
  AW.fz (s':=⟨s.t,upd (upd s.H j none) i (some (cs.set k (.v n ds))),s.nx⟩) ⟨fzs_refl,FzH.cellx h1 hk h2 hn hij,Nat.le_refl _⟩ hs
theorem BxP.setP2 {N lo m bx k:Nat} {os:List Int} {P B:AV} {bc:List AV} {X:List (List Int)} {Y:List (List (List Int))} {G:HP} (h:BxP N lo m bx os P B bc X Y G) (hk:k<os.length):
    ∃p,P= .h p 0 os.length∧G bx=some [ints os,.h p 0 os.length,B]∧G p=some (X.map ints)∧(X.map ints).length=os.length∧(lo≤p∧p<m)∧∀(G':HP) (w:List Int) (m':Nat),w.length≤6*N→m≤m'→G' p=some ((X.map ints).set k (ints w))→(∀j,j<m→j≠p→G' j=G j)→BxP N lo m' bx os P B bc (X.set k w) Y G':=by
  obtain⟨h1,h2,h3,h4⟩:=h
  obtain⟨p,e,g1,g2,g3⟩:=h2.setP (k:=k) (by rw[h3.p];exact hk)
  rw[h3.p]at e
  refine⟨p,e,by rw[h1,e],g1,by rw[List.length_map,h3.p],g2,fun G' w m' hw hm hp hke=>⟨?_,g3 _ w lo m' (by rw[hp,splice_one _ _ _ (by rw[List.length_map,h3.p];exact hk)]) (fun j _ hj hne=>hke j hj hne) (Nat.le_refl _) hm,h3.setP hw,h4⟩⟩
  rw[hke bx (by omega) (by omega),h1]
theorem BxP.setB2 {N lo m bx k l:Nat} {os:List Int} {P B:AV} {bc:List AV} {X:List (List Int)} {Y:List (List (List Int))} {G:HP} (h:BxP N lo m bx os P B bc X Y G) (hk:k<os.length) (hl:l<os.length-1-k):
    ∃ b q,B= .h b 0 os.length∧G bx=some [ints os,P,.h b 0 os.length]∧G b=some bc∧bc.length=os.length∧(lo≤b∧b<m)∧bc.getD k .j= .h q 0 (os.length-1-k)∧G q=some ((Y.getD k []).map ints)∧((Y.getD k []).map ints).length=os.length-1-k∧(lo≤q∧q<m)∧b≠q∧
      ∀(G':HP) (w:List Int) (m':Nat),w.length≤6*N→m≤m'→G' q=some (((Y.getD k []).map ints).set l (ints w))→(∀j,j<m→j≠q→G' j=G j)→BxP N lo m' bx os P B bc X (Y.set k ((Y.getD k []).set l w)) G':=by
  obtain⟨h1,h2,h3,h4⟩:=h
  have hr:=h3.r k hk
  obtain⟨b,q,e,g1,g2,_,g4,g5,g6,g7,g8⟩:=h2.setB (k:=k) (l:=l) (by rw[h3.c];exact hk) (by omega)
  rw[h3.c]at e
  rw[hr]at g4
  refine⟨b,q,e,by rw[h1,e],g1,by rw[h2.bl,h3.c],g2,g4,g5,by rw[List.length_map,hr],g6,g7,fun G' w m' hw hm hp hke=>⟨?_,g8 _ w lo m' (by rw[hp,splice_one _ _ _ (by rw[List.length_map,hr];exact hl)]) (fun j _ hj hne=>hke j hj hne) (Nat.le_refl _) hm,h3.setB hw,h4⟩⟩
  rw[hke bx (by omega) (by omega),h1]
theorem BxP.keepS {N lo m m' bx sid:Nat} {os:List Int} {P B:AV} {bc:List AV} {X:List (List Int)} {Y:List (List (List Int))} {G G':HP} (h:BxP N lo m bx os P B bc X Y G) (hk:∀i,i<m→i≠sid→G' i=G i) (hs:sid<bx) (hlm:lo≤m) (hm:m≤m'):BxP N lo m' bx os P B bc X Y G':=by
  have:=h.lt
  exact⟨(hk bx (by omega) (by omega)).trans h.cl,h.rg.keep (fun i hi1 hi=>hk i hi (by omega)) (Nat.le_refl _) hm,h.sh,h.lt⟩
theorem mkS {N:St→Prop} {C:Nat→HP→Int→Prop} {S:Nat→HP→Int→St} {G:Prop} (h1:(∀m H x,C m H x→N (S m H x))→G) (h2:∀m H x,C m H x→N (S m H x)):G:=h1 h2
theorem set_at {cs:List AV} {k:Nat} {x y:AV} (h:k<cs.length):(splice cs k [x])[k]? =some x∧(splice cs k [x]).set k y=cs.set k y:=by
  rw[splice_one _ _ _ h]
  exact⟨by simp[h],by simp⟩
set_option maxHeartbeats 4000000 in
theorem spec_l07Heisenberg_o {bs:List Int} {sid:Nat} {H:HP} (hg:srcOk bs sid H) (pr:Int) (hp:2≤pr∧pr≤7) (nx:Nat) (hsn:sid<nx):AC Tryz.prog 81 nx H [.q sid 0,.i .i64 pr] (fun nx' H' r=>∃r2,Fz H' (blw nx H') r r2∧preQ 12 r2∧srcOk bs sid H'∧∀i,i<nx→i≠sid→H' i=H i):=by
 obtain⟨os,hos⟩:∃os,[pr,pr,pr]=os:=⟨_,rfl⟩
 have hol:os.length=3:=by rw[←hos];rfl
 have hob:∀x∈os,-1000≤x∧x≤1000:=fun x hx=>by rw[←hos]at hx;simp at hx;omega
 refine AC.introx envOk Tryz.func81 rfl (by kernel_rfl) Tryz.ntmps81 Tryz.results81 (fun hfr cX=> ?_)
 refine AW.sr envOk (fun N hN=> ?_)
 simp-dsimp-implicitDefEqProofs (disch:=(first|omega|((repeat refine LC.upd (by omega) ?_);assumption))) only[go_sem,undef,prs,w64]
 refine hN _ ?_
 try clear hN N
 refine AW.sr envOk (fun N hN=> ?_)
 simp-dsimp-implicitDefEqProofs (disch:=(first|omega|((repeat refine LC.upd (by omega) ?_);assumption))) only[go_sem,undef,prs,w64]
 refine(spec_l07Trivial_rg os (by omega) _ (.cons (vw_own (os:=os) (by rw[←hos];exact upd_same _ _ _) hol) .nil)).mono2 ?_
 intro m1 H1 r1 hm1 hrg
 obtain⟨P,B,bc,rfl,hP1,hB1,hlow1,hbx⟩:=BxP.start (N:=12) (bx:=nx+1+5) hrg (by omega) (by omega) hob (by omega)
 try simp-dsimp-implicitDefEqProofs (disch:=(first|omega|((repeat refine LC.upd (by omega) ?_);assumption))) only[go_sem,undef,hP1,hB1,ints,w64,Bool.and_true]
 refine hN _ ?_
 try clear hN N
 refine AW.nameH (fun G1 hG1=> ?_)
 dsimp only at hG1
 replace hbx:BxP 12 (nx+1+7) m1 (nx+1+5) os P B bc (trP os.length) (trC os.length) G1:=by rw[←hG1];exact hbx
 have hl1:∀i,i<nx+1→G1 i=upd H nx (some [.nl,.nl,.nl]) i:=fun i hi=>by rw[←hG1,upd_ne _ _ (by omega),hlow1 i (by omega),upd_ne _ _ (by omega)]
 obtain⟨b,q,hBe,hbb,hb1,hb2,hb3,hq0,hq1,hq2,hq3,hbq,hput⟩:=hbx.setB2 (k:=0) (l:=0) (by omega) (by omega)
 refine AW.sr envOk (fun N hN=> ?_)
 simp-dsimp-implicitDefEqProofs (disch:=(first|omega|((repeat refine LC.upd (by omega) ?_);assumption))) only[go_sem,undef,prs,w64,hbb,hb1,hb2,hq0,hq1,hq2]
 refine hN _ ?_
 try clear hN N
 refine AW.seq (fun N1 hN1=> ?_)
 refine AW.fzcellx q (m1+4) 3 0 (splice (((trC os.length).getD 0 []).map ints) 0 [.h (m1+4) 0 3]) [.i .i64 0,.i .i64 1,.i .i64 1] (upd_same _ _ _) (set_at (y:= .nl) (by omega)).1 ((upd_ne _ _ (by omega)).trans (upd_same _ _ _)) rfl (by omega) ?_
 refine AW.nameH (fun G2 hG2=> ?_)
 dsimp only at hG2
 replace hbx:=hput G2 [0,1,1] (m1+7) (by simp) (by omega) (by rw[←hG2,upd_same,(set_at (by omega)).2];rfl) (fun j hj hne=>by rw[←hG2,upd_ne _ _ hne,upd_ne _ _ (by omega),upd_ne _ _ hne,upd_ne _ _ (by omega)])
 have hl2:∀i,i<nx+1→G2 i=upd H nx (some [.nl,.nl,.nl]) i:=fun i hi=>by rw[←hl1 i hi,←hG2,upd_ne _ _ (by omega),upd_ne _ _ (by omega),upd_ne _ _ (by omega),upd_ne _ _ (by omega)]
 have hgs:srcOk bs sid G2:=hg.keep ((hl2 sid (by omega)).trans (upd_ne _ _ (by omega)))
 simp-dsimp-implicitDefEqProofs (disch:=(first|omega|((repeat refine LC.upd (by omega) ?_);assumption))) only[go_sem,undef]
 refine AW.sr envOk (fun N hN=> ?_)
 simp-dsimp-implicitDefEqProofs (disch:=(first|omega|((repeat refine LC.upd (by omega) ?_);assumption))) only[go_sem,undef,prs,w64]
 refine(spec_l01Next_s hgs 2 (by omega) _).mono2 ?_
 rintro m2 H2 r2 hm2 ⟨⟨x,rfl,hx⟩,hg2,hk2⟩
 replace hbx:=hbx.keepS (G':=H2) (m':=m2) (fun i hi hne=>hk2 i (by omega) hne) (by omega) (by omega) (by omega)
 have hl3:∀i,i<nx+1→i≠sid→H2 i=upd H nx (some [.nl,.nl,.nl]) i:=fun i hi hne=>(hk2 i (by omega) hne).trans (hl2 i hi)
 try simp-dsimp-implicitDefEqProofs (disch:=(first|omega|((repeat refine LC.upd (by omega) ?_);assumption))) only[go_sem,undef,prs,w64]
 refine hN _ ?_
 try clear hN N
 refine AW.cond rfl (fun h1=> ?_) (fun h1=> ?_)
 ·try simp only[cn]at h1
  obtain⟨p,hPe,hbp,hp1,hp2,hp3,hput⟩:=hbx.setP2 (k:=0) (by omega)
  refine AW.seq (fun N hN=> ?_)
  apply mkS (N:=N)
  ·intro key
   refine AW.drawT envOk (by kernel_rfl) [true,false,true,true,false,false,false,false] (.br 1 (.br 4 (.br 5 (.br 6 (.br 7 .nil .nil) .nil) .nil) .nil) (.br 4 (.br 1 (.br 5 (.br 6 (.br 7 .nil .nil) .nil) .nil) (.br 5 (.br 1 (.br 6 (.br 7 .nil .nil) .nil) .nil) .nil)) .nil)) (by kernel_rfl) ?_
   simp-dsimp-implicitDefEqProofs (disch:=(first|omega|((repeat refine LC.upd (by omega) ?_);assumption))) only[go_sem,undef,prs,w64,hbp,hp1,hp2]
   refine⟨?_,?_⟩
   all_goals
    refine(spec_l01Next_s hg2 pr (by omega) _).mono2 ?_
    rintro m3 H3 r3 hm3 ⟨⟨x3,rfl,hx3⟩,hg3,hk3⟩
    have hp4:=(hk3 p (by omega) (by omega)).trans hp1
    have hb4:=(hk3 (nx+1+5) (by omega) (by omega)).trans hbp
    try simp-dsimp-implicitDefEqProofs (disch:=(first|omega|((repeat refine LC.upd (by omega) ?_);assumption))) only[go_sem,undef,w64,prs,hp4,hp2,hb4,and_self]
    exact key m3 H3 x3 (And.intro hm3 (And.intro hg3 hk3))
  intro m3 H3 x3 hC
  obtain⟨hm3,hg3,hk3⟩:=hC
  replace hbx:=hbx.keepS (G':=H3) (m':=m2) (fun i hi hne=>hk3 i (by omega) hne) (by omega) (by omega) (by omega)
  obtain⟨p',hPe',-,-,-,-,hput2⟩:=hbx.setP2 (k:=0) (by omega)
  obtain rfl:p'=p:=by rw[hPe]at hPe';injection hPe' with e;exact e.symm
  refine hN _ ?_
  try clear hN N
  refine AW.fzcellx p' (m2+5) 3 0 (splice ((trP os.length).map ints) 0 [.h (m2+5) 0 3]) [.i .i64 0,.i .i64 0,.i .i64 x3] (upd_same _ _ _) (set_at (y:= .nl) (by omega)).1 ((upd_ne _ _ (by omega)).trans (upd_same _ _ _)) rfl (by omega) ?_
  refine AW.nameH (fun G4 hG4=> ?_)
  dsimp only at hG4
  replace hbx:=hput2 G4 [0,0,x3] m3 (by simp) (by omega) (by rw[←hG4,upd_same,(set_at (by omega)).2];rfl) (fun j hj hne=>by rw[←hG4,upd_ne _ _ hne,upd_ne _ _ (by omega),upd_ne _ _ hne,upd_ne _ _ (by omega)])
  have hl4:∀i,i<nx+1→i≠sid→G4 i=upd H nx (some [.nl,.nl,.nl]) i:=fun i hi hne=>by rw[←hl3 i hi hne,←hk3 i (by omega) hne,←hG4,upd_ne _ _ (by omega),upd_ne _ _ (by omega),upd_ne _ _ (by omega),upd_ne _ _ (by omega)]
  have hg4:srcOk bs sid G4:=hg3.keep (by rw[←hG4,upd_ne _ _ (by omega),upd_ne _ _ (by omega),upd_ne _ _ (by omega),upd_ne _ _ (by omega)])
  obtain⟨p,hPe,hbp,hp1,hp2,hp3,hput⟩:=hbx.setP2 (k:=1) (by omega)
  simp-dsimp-implicitDefEqProofs (disch:=(first|omega|((repeat refine LC.upd (by omega) ?_);assumption))) only[go_sem,undef]
  refine AW.name (fun N hN=> ?_)
  apply mkS (N:=N)
  ·intro key
   refine AW.drawT envOk (by kernel_rfl) [true,false,true,true,false,false,false,false] (.br 1 (.br 4 (.br 5 (.br 6 (.br 7 .nil .nil) .nil) .nil) .nil) (.br 4 (.br 1 (.br 5 (.br 6 (.br 7 .nil .nil) .nil) .nil) (.br 5 (.br 1 (.br 6 (.br 7 .nil .nil) .nil) .nil) .nil)) .nil)) (by kernel_rfl) ?_
   simp-dsimp-implicitDefEqProofs (disch:=(first|omega|((repeat refine LC.upd (by omega) ?_);assumption))) only[go_sem,undef,prs,w64,hbp,hp1,hp2]
   refine⟨?_,?_⟩
   all_goals
    refine(spec_l01Next_s hg4 pr (by omega) _).mono2 ?_
    rintro m5 H5 r5 hm5 ⟨⟨x5,rfl,hx5⟩,hg5,hk5⟩
    have hp4:=(hk5 p (by omega) (by omega)).trans hp1
    have hb4:=(hk5 (nx+1+5) (by omega) (by omega)).trans hbp
    try simp-dsimp-implicitDefEqProofs (disch:=(first|omega|((repeat refine LC.upd (by omega) ?_);assumption))) only[go_sem,undef,w64,prs,hp4,hp2,hb4,and_self]
    exact key m5 H5 x5 (And.intro hm5 (And.intro hg5 hk5))
  intro m5 H5 x5 hC
  obtain⟨hm5,hg5,hk5⟩:=hC
  replace hbx:=hbx.keepS (G':=H5) (m':=m3) (fun i hi hne=>hk5 i (by omega) hne) (by omega) (by omega) (by omega)
  obtain⟨p',hPe',-,-,-,-,hput2⟩:=hbx.setP2 (k:=1) (by omega)
  obtain rfl:p'=p:=by rw[hPe]at hPe';injection hPe' with e;exact e.symm
  refine hN _ ?_
  simp only[thn,blk]
  refine hN1 _ ?_
  try clear hN1 N1
  first|refine AW.fzcellx p' (m3+5) 3 1 (splice (((trP os.length).set 0 [0,0,x3]).map ints) 1 [.h (m3+5) 0 3]) [.i .i64 0,.i .i64 0,.i .i64 x5] (upd_same _ _ _) (set_at (y:= .nl) (by omega)).1 ((upd_ne _ _ (by omega)).trans (upd_same _ _ _)) rfl (by omega) ?_|skip
  refine AW.nameH (fun G6 hG6=> ?_)
  dsimp only at hG6
  obtain⟨M,X6,hb6,hg6,hl6⟩:∃M X6,BxP 12 (nx+1+7) M (nx+1+5) os P B bc X6 ((trC os.length).set 0 (((trC os.length).getD 0 []).set 0 [0,1,1])) G6∧srcOk bs sid G6∧∀i,i<nx+1→i≠sid→G6 i=upd H nx (some [.nl,.nl,.nl]) i:=by
   first
   |exact⟨m5,_,hput2 G6 [0,0,x5] m5 (by simp) (by omega) (by rw[←hG6,upd_same,(set_at (by omega)).2];rfl) (fun j hj hne=>by rw[←hG6,upd_ne _ _ hne,upd_ne _ _ (by omega),upd_ne _ _ hne,upd_ne _ _ (by omega)]),hg5.keep (by rw[←hG6,upd_ne _ _ (by omega),upd_ne _ _ (by omega),upd_ne _ _ (by omega),upd_ne _ _ (by omega)]),fun i hi hne=>by rw[←hl4 i hi hne,←hk5 i (by omega) hne,←hG6,upd_ne _ _ (by omega),upd_ne _ _ (by omega),upd_ne _ _ (by omega),upd_ne _ _ (by omega)]⟩
   |exact⟨m2,_,by rw[←hG6];exact hbx,by rw[←hG6];exact hg2,fun i hi hne=>by rw[←hG6];exact hl3 i hi hne⟩
  have hbb:=hb6.cl
  have h60:=(hl6 nx (by omega) (by omega)).trans (upd_same _ _ _)
  simp-dsimp-implicitDefEqProofs (disch:=(first|omega|((repeat refine LC.upd (by omega) ?_);assumption))) only[go_sem,undef]
  refine AW.sr envOk (fun N hN=> ?_)
  simp-dsimp-implicitDefEqProofs (disch:=(first|omega|((repeat refine LC.upd (by omega) ?_);assumption))) only[go_sem,undef,prs,w64,hbb,h60,hb6.ones.1,hb6.ones.2]
  refine hN _ ?_
  try clear hN N
  refine AW.ret ?_
  simp-dsimp-implicitDefEqProofs (disch:=(first|omega|((repeat refine LC.upd (by omega) ?_);assumption))) only[go_sem,undef]
  exact⟨_,fun _ _ h=>h,_,hb6.fz (fun i hi=>upd_ne _ _ (by omega)) (by omega),⟨os,_,_,rfl,hb6.sh⟩,hg6.keep (upd_ne _ _ (by omega)),fun i hi hne=>by rw[upd_ne _ _ (by omega),hl6 i (by omega) hne,upd_ne _ _ (by omega)]⟩
 ·try simp only[cn]at h1
  refine AW.skip ?_
  simp only[thn,blk]
  refine hN1 _ ?_
  try clear hN1 N1
  first|refine AW.fzcellx p' (m3+5) 3 1 (splice (((trP os.length).set 0 [0,0,x3]).map ints) 1 [.h (m3+5) 0 3]) [.i .i64 0,.i .i64 0,.i .i64 x5] (upd_same _ _ _) (set_at (y:= .nl) (by omega)).1 ((upd_ne _ _ (by omega)).trans (upd_same _ _ _)) rfl (by omega) ?_|skip
  refine AW.nameH (fun G6 hG6=> ?_)
  dsimp only at hG6
  obtain⟨M,X6,hb6,hg6,hl6⟩:∃M X6,BxP 12 (nx+1+7) M (nx+1+5) os P B bc X6 ((trC os.length).set 0 (((trC os.length).getD 0 []).set 0 [0,1,1])) G6∧srcOk bs sid G6∧∀i,i<nx+1→i≠sid→G6 i=upd H nx (some [.nl,.nl,.nl]) i:=by
   first
   |exact⟨m5,_,hput2 G6 [0,0,x5] m5 (by simp) (by omega) (by rw[←hG6,upd_same,(set_at (by omega)).2];rfl) (fun j hj hne=>by rw[←hG6,upd_ne _ _ hne,upd_ne _ _ (by omega),upd_ne _ _ hne,upd_ne _ _ (by omega)]),hg5.keep (by rw[←hG6,upd_ne _ _ (by omega),upd_ne _ _ (by omega),upd_ne _ _ (by omega),upd_ne _ _ (by omega)]),fun i hi hne=>by rw[←hl4 i hi hne,←hk5 i (by omega) hne,←hG6,upd_ne _ _ (by omega),upd_ne _ _ (by omega),upd_ne _ _ (by omega),upd_ne _ _ (by omega)]⟩
   |exact⟨m2,_,by rw[←hG6];exact hbx,by rw[←hG6];exact hg2,fun i hi hne=>by rw[←hG6];exact hl3 i hi hne⟩
  have hbb:=hb6.cl
  have h60:=(hl6 nx (by omega) (by omega)).trans (upd_same _ _ _)
  simp-dsimp-implicitDefEqProofs (disch:=(first|omega|((repeat refine LC.upd (by omega) ?_);assumption))) only[go_sem,undef]
  refine AW.sr envOk (fun N hN=> ?_)
  simp-dsimp-implicitDefEqProofs (disch:=(first|omega|((repeat refine LC.upd (by omega) ?_);assumption))) only[go_sem,undef,prs,w64,hbb,h60,hb6.ones.1,hb6.ones.2]
  refine hN _ ?_
  try clear hN N
  refine AW.ret ?_
  simp-dsimp-implicitDefEqProofs (disch:=(first|omega|((repeat refine LC.upd (by omega) ?_);assumption))) only[go_sem,undef]
  exact⟨_,fun _ _ h=>h,_,hb6.fz (fun i hi=>upd_ne _ _ (by omega)) (by omega),⟨os,_,_,rfl,hb6.sh⟩,hg6.keep (upd_ne _ _ (by omega)),fun i hi hne=>by rw[upd_ne _ _ (by omega),hl6 i (by omega) hne,upd_ne _ _ (by omega)]⟩
theorem spec_l07Heisenberg_s {bs:List Int} {sid:Nat} {H:HP} (hg:srcOk bs sid H) (pr:Int) (hp:2≤pr∧pr≤7) (nx:Nat) (hsn:sid<nx):AC Tryz.prog 81 nx H [.q sid 0,.i .i64 pr] (sK bs sid nx H (preQ 12)):=AC.zs hsn (spec_l07Heisenberg_o hg pr hp nx hsn)
end Go.Proofs.YtlcddiojeghfgaaGreatDoor
