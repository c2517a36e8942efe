import Derived.Test.YtghmeeifjeafmaaGreatZ45
set_option linter.unusedVariables false
set_option linter.unusedSimpArgs false
namespace Go.Proofs.YtghmeeifjeafmaaGreat
open Nat (reduceAdd reduceSub reduceGT reduceEqDiff reduceMul)
theorem fz_rows {E:HP} {b id n:Nat} {cs:List AV} {W:List (List Int)} (h:E id=some cs) (hid:b≤id) (hl:cs.length=W.length) (hc:∀k,k<W.length→∃q,cs.getD k .j= .h q 0 (W.getD k []).length∧b≤q∧E q=some ((W.getD k []).map (.i .i64))) (hn:n=W.length:=by rfl):Fz E (blw b E) (.h id 0 n) (rows W):=by
  subst hn
  unfold rows
  refine .h id 0 _ cs _ h (blw_ge hid) (by omega) (by simp) fun k x y hx hy=>?_
  rw[Nat.zero_add]at hx
  have hk:k<W.length:=by have:=(List.getElem?_eq_some_iff.1 hy).1;simpa using this
  obtain⟨q,e,g1,g2⟩:=hc k hk
  have hx1:x= .h q 0 (W.getD k []).length:=by rw[←e,List.getD_eq_getElem?_getD,hx];rfl
  have hy1:y=ints (W.getD k []):=by
    rw[List.getElem?_map,List.getElem?_eq_getElem hk]at hy
    rw[List.getD_eq_getElem?_getD,List.getElem?_eq_getElem hk]
    exact(Option.some.inj hy).symm
  subst hx1 hy1
  unfold ints
  exact .h q 0 _ _ _ g2 (blw_ge g1) (by simp) (by simp) fun k x y g1 g2=>by rw[Nat.zero_add,g2]at g1;cases g1;exact .refl _
theorem LC.vwI {H:HP} {a b:Nat} {L:AV} {xs:List Int} (h:LC H a b L (xs.map (.i .i64))):Vw H L (Go.Proofs.YtghmeeifjeafmaaGreat.ints xs):=by
  rcases h with ⟨rfl,e⟩|⟨id,rfl,h0,_,_⟩
  · obtain rfl:xs=[]:=List.map_eq_nil_iff.1 e
    exact .nl
  have:=Vw.fr (n:=(xs.map (AV.i .i64)).length) h0 rfl
  unfold Go.Proofs.YtghmeeifjeafmaaGreat.ints
  rw[List.length_map]at this ⊢
  exact this
theorem sqM_of {n:Nat} {W:List (List Int)} (h:W.length=n) (hw:∀w∈W,w.length=n∧∀x∈w,0≤x∧x≤10):sqM n W:=
  ⟨h,fun w hm=>⟨(hw w hm).1,fun k=>getD_all (p:=fun x:Int=>0≤x∧x≤10) (hw w hm).2 (by omega) k⟩⟩
theorem sqm21:sqM 2 [[2,0],[0,2]]:=sqM_of (by decide) (by decide)
theorem sqm22:sqM 2 [[0,1],[2,0]]:=sqM_of (by decide) (by decide)
theorem sqm23:sqM 3 [[0,1,0],[0,0,1],[1,1,0]]:=sqM_of (by decide) (by decide)
theorem sqm24:sqM 3 [[1,1,0],[0,1,1],[0,0,1]]:=sqM_of (by decide) (by decide)
theorem sqm25:sqM 4 [[0,1,0,0],[1,0,0,0],[0,0,0,1],[0,0,1,0]]:=sqM_of (by decide) (by decide)
theorem sqm26:sqM 2 [[0,1],[4,4]]:=sqM_of (by decide) (by decide)
set_option maxRecDepth 20000 in
set_option maxHeartbeats 8000000 in
theorem spec_l07Family_o {bs:List Int} {sid:Nat} {H:HP} (hg:srcOk bs sid H) (nx:Nat) (hsn:sid<nx):AC Tryz.prog 115 nx H [.q sid 0] (fun nx' H' r=>∃r2,Fz H' (blw nx H') r r2∧preQ 12 r2∧srcOk bs sid H'∧∀i,i<nx→i≠sid→H' i=H i):=by
 refine AC.introx envOk Tryz.func115 rfl (by kernel_rfl) Tryz.ntmps115 Tryz.results115 (fun hfr cX=>?_)
 refine AW.sr envOk (fun N hN=>?_);simp-dsimp-implicitDefEqProofs (disch:=omega)only[go_sem,prs];refine hN _ ?_;try clear hN N
 refine AW.seq (fun N1 hN1=>?_);refine AW.nameH (fun G0 hG0=>?_);dsimp only at hG0
 have hl:∀i,i<nx→i≠sid→G0 i=H i:=fun i hi _=>by rw[←hG0,upd_ne _ _ (by omega)]
 have h0:G0 nx=some [.nl,.nl,.nl]:=by rw[←hG0,upd_same]
 replace hg:srcOk bs sid G0:=hg.keep (by rw[←hG0,upd_ne _ _ (by omega)])
 clear hG0
 simp-dsimp-implicitDefEqProofs (disch:=omega)only[go_sem];refine AW.sr envOk (fun N hN=>?_);simp-dsimp-implicitDefEqProofs (disch:=omega)only[go_sem,prs];refine(spec_l01Next_s (hg.keep (by first|rfl|(simp(disch:=omega)only[upd_ne]))) 9 (by omega) _).mono2 ?_
 rintro m1 H1 r1 hm1 ⟨⟨x1,rfl,hx1⟩,hg1,hk1⟩
 replace hl:∀i,i<nx→i≠sid→H1 i=H i:=fun i hi hne=>(hk1 i (by omega) hne).trans (by first|exact hl i hi hne|(simp(disch:=omega)only[upd_ne];exact hl i hi hne))
 replace h0:H1 nx=some [.nl,.nl,.nl]:=(hk1 nx (by omega) (by omega)).trans (by first|exact h0|(simp(disch:=omega)only[upd_ne];exact h0))
 replace hg:=hg1
 clear hg1
 try simp-dsimp-implicitDefEqProofs (disch:=omega)only[go_sem,prs]
 refine hN _ ?_;try clear hN N
 refine AW.block ?_;refine AW.sr envOk (fun N hN=>?_);simp-dsimp-implicitDefEqProofs (disch:=omega)only[go_sem,prs];refine hN _ ?_;try clear hN N
 refine AW.cond rfl (fun h1=>?_) (fun h1=>?_)
 ·try simp only[cn]at h1
  refine AW.sr envOk (fun N hN=>?_);simp-dsimp-implicitDefEqProofs (disch:=omega)only[go_sem,prs];refine hN _ ?_;try clear hN N
  refine AW.seq (fun N2 hN2=>?_);refine AW.sr envOk (fun N hN=>?_);simp-dsimp-implicitDefEqProofs (disch:=omega)only[go_sem,prs];refine(spec_l01Next_s (hg.keep (by first|rfl|(simp(disch:=omega)only[upd_ne]))) 5 (by omega) _).mono2 ?_
  rintro m2 H2 r2 hm2 ⟨⟨x2,rfl,hx2⟩,hg2,hk2⟩
  replace hl:∀i,i<nx→i≠sid→H2 i=H i:=fun i hi hne=>(hk2 i (by omega) hne).trans (by first|exact hl i hi hne|(simp(disch:=omega)only[upd_ne];exact hl i hi hne))
  replace h0:H2 nx=some [.nl,.nl,.nl]:=(hk2 nx (by omega) (by omega)).trans (by first|exact h0|(simp(disch:=omega)only[upd_ne];exact h0))
  replace hg:=hg2
  clear hg2
  try simp-dsimp-implicitDefEqProofs (disch:=omega)only[go_sem,prs]
  refine hN _ ?_;try clear hN N
  refine AW.block ?_;obtain⟨n2,rfl⟩:∃n:Nat,x2=n:=⟨x2.toNat,by omega⟩
  refine AW.loopN (α:=Nat×HP×AV×List Int) (fun x=>sl 130 [(0,.q sid 0),(2,.q nx 0),(3,x.2.2.1),(4,.i .i64 x.1),(10,.i .i64 x1)]) (fun x=>x.2.1) (fun x m=>(x.1+x.2.2.2.length≤4∧nx+1≤m)∧LC x.2.1 (nx+1) m x.2.2.1 (x.2.2.2.map (.i .i64))∧(∀z∈x.2.2.2,2≤z∧z≤3)∧srcOk bs sid x.2.1∧(∀i,i<nx→i≠sid→x.2.1 i=H i)∧x.2.1 nx=some [.nl,.nl,.nl]) (fun x=>x.1) ((n2,H2,.h (m1+2) 0 0,[])) ?_ ?_ (fun _ _ h=>h) ?_
  ·exact⟨⟨by simp;omega,by first|omega|(simp only;omega)|(dsimp only;omega)⟩,LC.mk ((hk2 (m1+2) (by omega) (by omega)).trans (upd_same _ _ _)) rfl (by omega) (by first|omega|(simp only;omega)|(dsimp only;omega)),by simp,hg,hl,h0⟩
  ·simp(disch:=omega) [wks,wkA,sl,w64,ints,rows,cubes,w64,prs]<;>omega
  skip
  rintro⟨n2,G,L,vs⟩ m ⟨⟨hn2,hm⟩,hL,hvs,hg,hl,h0⟩
  simp-dsimp-implicitDefEqProofs (disch:=omega)only[go_sem];dsimp only at hn2 hm hL hvs hg hl h0 ⊢
  have hLo:=hL.one
  have hLl:=hL.len
  refine AW.seq (fun N3 hN3=>?_);refine AW.sr envOk (fun N hN=>?_);simp-dsimp-implicitDefEqProofs (disch:=omega)only[go_sem,prs];refine hN _ ?_;try clear hN N
  refine AW.cond rfl (fun h2=>?_) (fun h2=>?_)
  ·try simp only[cn]at h2
   refine AW.skip ?_;simp only[thn,blk];refine hN3 _ ?_;try clear hN3 N3
   refine AW.seq (fun N4 hN4=>?_);refine AW.block ?_;refine AW.regionL envOk ?_;simp-dsimp-implicitDefEqProofs (disch:=omega)only[go_sem,prs];refine(spec_l01Pick_s (hg.keep (by first|rfl|(simp(disch:=omega)only[upd_ne]))) [2,2,3] 3 (upd_same _ _ _) rfl (by omega) (by omega) _ (by omega) (by omega) (by omega)).mono2 ?_
   rintro m3 H3 r3 hm3 ⟨⟨x3,rfl,hx3⟩,hg3,hk3⟩
   have hb3:2≤x3∧x3≤3:=by simp at hx3;omega
   replace hl:∀i,i<nx→i≠sid→H3 i=H i:=fun i hi hne=>(hk3 i (by omega) hne).trans (by first|exact hl i hi hne|(simp(disch:=omega)only[upd_ne];exact hl i hi hne))
   replace h0:H3 nx=some [.nl,.nl,.nl]:=(hk3 nx (by omega) (by omega)).trans (by first|exact h0|(simp(disch:=omega)only[upd_ne];exact h0))
   have hL3:LC H3 (nx+1) m L (vs.map (.i .i64)):=hL.keep (fun i hi1 hi2=>(hk3 i (by omega) (by omega)).trans (upd_ne _ _ (by omega)))
   have hLb:=hL.bd
   try simp-dsimp-implicitDefEqProofs (disch:=(first|omega|((repeat refine LC.upd (by omega) ?_);assumption))) only[go_sem,hLo,hLl,apst_LC (a:=nx+1) (b:=m) (L:=L) (cs:=vs.map (.i .i64))]
   refine hN4 _ ?_;try clear hN4 N4
   refine AW.nameH (fun G3 hG3=>?_);dsimp only at hG3
   have hl3:∀i,i<nx→i≠sid→G3 i=H i:=fun i hi hne=>by rw[←hG3,upd_ne _ _ (by omega),dl_ne (by omega),upd_ne _ _ (by omega)];exact hl i hi hne
   have h03:G3 nx=some [.nl,.nl,.nl]:=by rw[←hG3,upd_ne _ _ (by omega),dl_ne (by omega),upd_ne _ _ (by omega)];exact h0
   have hg4:srcOk bs sid G3:=hg3.keep (by rw[←hG3,upd_ne _ _ (by omega),dl_ne (by omega),upd_ne _ _ (by omega)])
   refine AW.regionL envOk ?_;simp-dsimp-implicitDefEqProofs (disch:=omega)only[go_sem,prs];refine⟨(n2-1,G3,.h (m+2+5) 0 (vs.length+1),vs++[x3]),?_,fun _ _ h=>h,?_,?_⟩
   ·simp(disch:=omega) [wks,wkA,sl,w64]<;>omega
   ·have hmk:LC G3 (nx+1) (m3+3) (.h (m+2+5) 0 (vs.length+1)) ((vs++[x3]).map (.i .i64)):=LC.mk (by rw[←hG3,upd_same];simp) (by simp) (by omega) (by omega)
    have hvs2:∀z∈vs++[x3],2≤z∧z≤3:=app_all hvs hb3
    first|exact⟨⟨by simp;omega,by first|omega|(simp only;omega)|(dsimp only;omega)⟩,hmk,hvs2,hg4,hl3,h03⟩|exact⟨by simp;omega,hmk,hvs2,hg4,hl3,h03⟩
   first|omega|(simp only;omega)
  try simp only[cn]at h2
  refine AW.exit ?_;simp only[thn,blk,if_true];refine hN2 _ ?_;try clear hN2 N2
  refine AW.sr envOk (fun N hN=>?_);simp-dsimp-implicitDefEqProofs (disch:=omega)only[go_sem,prs];refine(spec_l07Trivial_rg vs (by omega) _ (.cons hL.vwI .nil)).mono2 ?_
  intro m4 H4 r4 hm4 hrg
  obtain⟨P,B,bc,rfl,hP1,hB1,hlow4,hbx⟩:=BxP.start (N:=12) (bx:=nx) hrg (by omega) (by omega) (fun x hx=>by have:=hvs x hx;omega) (by omega)
  have h04:=(hlow4 nx (by omega)).trans h0
  have hg4:srcOk bs sid H4:=hg.keep (hlow4 sid (by omega))
  have hl4:∀i,i<nx→i≠sid→H4 i=H i:=fun i hi hne=>(hlow4 i (by omega)).trans (hl i hi hne)
  try simp-dsimp-implicitDefEqProofs (disch:=omega)only[go_sem,hP1,hB1,ints,Bool.and_true,h04]
  refine hN _ ?_;try clear hN N
  refine AW.ret ?_;simp-dsimp-implicitDefEqProofs (disch:=omega)only[go_sem];exact⟨_,fun _ _ h=>h,_,hbx.fz (fun _ _=>rfl) (by omega),⟨vs,_,_,rfl,hbx.sh⟩,hg4.keep (upd_ne _ _ (by omega)),fun i hi hne=>(upd_ne _ _ (by omega)).trans (hl4 i hi hne)⟩
 try simp only[cn]at h1
 refine AW.sr envOk (fun N hN=>?_);simp-dsimp-implicitDefEqProofs (disch:=omega)only[go_sem,prs];refine hN _ ?_;try clear hN N
 refine AW.cond rfl (fun h3=>?_) (fun h3=>?_)
 ·try simp only[cn]at h3
  refine AW.sr envOk (fun N hN=>?_);simp-dsimp-implicitDefEqProofs (disch:=omega)only[go_sem,prs,↓a_bs11i]
  refine(spec_l01Pick_s (hg.keep (by first|rfl|(simp(disch:=omega)only[upd_ne]))) [1,4,6,8,9,12,5,7,27,25,36] 11 (upd_same _ _ _) rfl (by omega) (by omega) _ (by omega) (by omega) (by omega)).mono2 ?_
  rintro m5 H5 r5 hm5 ⟨⟨x5,rfl,hx5⟩,hg5,hk5⟩
  have hb5:1≤x5∧x5≤64:=by simp at hx5;omega
  replace hl:∀i,i<nx→i≠sid→H5 i=H i:=fun i hi hne=>(hk5 i (by omega) hne).trans (by first|exact hl i hi hne|(simp(disch:=omega)only[upd_ne];exact hl i hi hne))
  replace h0:H5 nx=some [.nl,.nl,.nl]:=(hk5 nx (by omega) (by omega)).trans (by first|exact h0|(simp(disch:=omega)only[upd_ne];exact h0))
  replace hg:=hg5
  clear hg5
  try simp-dsimp-implicitDefEqProofs (disch:=omega)only[go_sem,prs]
  refine(spec_CyclicPresentation_z x5 hb5.1 hb5.2 _ _).mono2 ?_
  rintro m6 H6 r6 hm6 ⟨⟨os,X,Y,e6,rfl,hsh⟩,hk6⟩
  replace hg:srcOk bs sid H6:=hg.keep ((hk6 sid (by omega)).trans (by first|rfl|(rw[blw_lt (by omega)];simp(disch:=omega)only[upd_ne])))
  replace hl:∀i,i<nx→i≠sid→H6 i=H i:=fun i hi hne=>(hk6 i (by omega)).trans (by first|exact hl i hi hne|(rw[blw_lt (by omega)];simp(disch:=omega)only[upd_ne];exact hl i hi hne))
  replace h0:H6 nx=some [.nl,.nl,.nl]:=(hk6 nx (by omega)).trans (by first|exact h0|(rw[blw_lt (by omega)];simp(disch:=omega)only[upd_ne];exact h0))
  try simp-dsimp-implicitDefEqProofs (disch:=omega)only[go_sem,prs,h0]
  refine hN _ ?_;try clear hN N
  refine AW.sr envOk (fun N hN=>?_);simp-dsimp-implicitDefEqProofs (disch:=omega)only[go_sem,prs,h0];refine hN _ ?_;try clear hN N
  refine AW.ret ?_;simp-dsimp-implicitDefEqProofs (disch:=omega)only[go_sem];exact⟨_,fun _ _ h=>h,_,.refl _,⟨os,X,Y,rfl,by first|exact hsh|exact hsh.more (by omega)⟩,hg.keep (by simp(disch:=omega)only[upd_ne]),fun i hi hne=>by simp(disch:=omega)only[upd_ne];exact hl i hi hne⟩
 try simp only[cn]at h3
 refine AW.sr envOk (fun N hN=>?_);simp-dsimp-implicitDefEqProofs (disch:=omega)only[go_sem,prs];refine hN _ ?_;try clear hN N
 refine AW.cond rfl (fun h4=>?_) (fun h4=>?_)
 ·try simp only[cn]at h4
  refine AW.sr envOk (fun N hN=>?_);simp-dsimp-implicitDefEqProofs (disch:=omega)only[go_sem,prs,↓a_bs8i]
  refine(spec_l01Pick_s (hg.keep (by first|rfl|(simp(disch:=omega)only[upd_ne]))) [3,4,5,6,7,8,9,12] 8 (upd_same _ _ _) rfl (by omega) (by omega) _ (by omega) (by omega) (by omega)).mono2 ?_
  rintro m7 H7 r7 hm7 ⟨⟨x7,rfl,hx7⟩,hg7,hk7⟩
  have hb7:1≤x7∧x7≤64:=by simp at hx7;omega
  replace hl:∀i,i<nx→i≠sid→H7 i=H i:=fun i hi hne=>(hk7 i (by omega) hne).trans (by first|exact hl i hi hne|(simp(disch:=omega)only[upd_ne];exact hl i hi hne))
  replace h0:H7 nx=some [.nl,.nl,.nl]:=(hk7 nx (by omega) (by omega)).trans (by first|exact h0|(simp(disch:=omega)only[upd_ne];exact h0))
  replace hg:=hg7
  clear hg7
  try simp-dsimp-implicitDefEqProofs (disch:=omega)only[go_sem,prs]
  refine hN _ ?_;try clear hN N
  refine AW.sr envOk (fun N hN=>?_);simp-dsimp-implicitDefEqProofs (disch:=omega)only[go_sem,prs];refine(spec_l07Meta_z 2 x7 (x7-1) 0 (by omega) (by omega) (by omega) (by omega) _ _).mono2 ?_
  rintro m8 H8 r8 hm8 ⟨⟨os,X,Y,rfl,hsh⟩,hk8⟩
  replace hg:srcOk bs sid H8:=hg.keep ((hk8 sid (by omega)).trans (by first|rfl|(rw[blw_lt (by omega)];simp(disch:=omega)only[upd_ne])))
  replace hl:∀i,i<nx→i≠sid→H8 i=H i:=fun i hi hne=>(hk8 i (by omega)).trans (by first|exact hl i hi hne|(rw[blw_lt (by omega)];simp(disch:=omega)only[upd_ne];exact hl i hi hne))
  replace h0:H8 nx=some [.nl,.nl,.nl]:=(hk8 nx (by omega)).trans (by first|exact h0|(rw[blw_lt (by omega)];simp(disch:=omega)only[upd_ne];exact h0))
  try simp-dsimp-implicitDefEqProofs (disch:=omega)only[go_sem,prs,h0]
  refine hN _ ?_;try clear hN N
  refine AW.ret ?_;simp-dsimp-implicitDefEqProofs (disch:=omega)only[go_sem];exact⟨_,fun _ _ h=>h,_,.refl _,⟨os,X,Y,rfl,by first|exact hsh|exact hsh.more (by omega)⟩,hg.keep (by simp(disch:=omega)only[upd_ne]),fun i hi hne=>by simp(disch:=omega)only[upd_ne];exact hl i hi hne⟩
 try simp only[cn]at h4
 refine AW.sr envOk (fun N hN=>?_);simp-dsimp-implicitDefEqProofs (disch:=omega)only[go_sem,prs];refine hN _ ?_;try clear hN N
 refine AW.cond rfl (fun h5=>?_) (fun h5=>?_)
 ·try simp only[cn]at h5
  refine AW.sr envOk (fun N hN=>?_);simp-dsimp-implicitDefEqProofs (disch:=omega)only[go_sem,prs];refine(spec_l01Pick_s (hg.keep (by first|rfl|(simp(disch:=omega)only[upd_ne]))) [4,6,8,12] 4 (upd_same _ _ _) rfl (by omega) (by omega) _ (by omega) (by omega) (by omega)).mono2 ?_
  rintro m9 H9 r9 hm9 ⟨⟨x9,rfl,hx9⟩,hg9,hk9⟩
  have hb9:1≤x9∧x9≤64:=by simp at hx9;omega
  have hd9:0≤x9.tdiv 2∧x9.tdiv 2≤64:=by rw[Int.tdiv_eq_ediv_of_nonneg (by omega)];omega
  replace hl:∀i,i<nx→i≠sid→H9 i=H i:=fun i hi hne=>(hk9 i (by omega) hne).trans (by first|exact hl i hi hne|(simp(disch:=omega)only[upd_ne];exact hl i hi hne))
  replace h0:H9 nx=some [.nl,.nl,.nl]:=(hk9 nx (by omega) (by omega)).trans (by first|exact h0|(simp(disch:=omega)only[upd_ne];exact h0))
  replace hg:=hg9
  clear hg9
  try simp-dsimp-implicitDefEqProofs (disch:=omega)only[go_sem,prs]
  refine hN _ ?_;try clear hN N
  refine AW.sr envOk (fun N hN=>?_);simp-dsimp-implicitDefEqProofs (disch:=omega)only[go_sem,prs];refine(spec_l07Meta_z 2 x9 (x9-1) (x9.tdiv 2) (by omega) (by omega) (by omega) hd9 _ _).mono2 ?_
  rintro m10 H10 r10 hm10 ⟨⟨os,X,Y,rfl,hsh⟩,hk10⟩
  replace hg:srcOk bs sid H10:=hg.keep ((hk10 sid (by omega)).trans (by first|rfl|(rw[blw_lt (by omega)];simp(disch:=omega)only[upd_ne])))
  replace hl:∀i,i<nx→i≠sid→H10 i=H i:=fun i hi hne=>(hk10 i (by omega)).trans (by first|exact hl i hi hne|(rw[blw_lt (by omega)];simp(disch:=omega)only[upd_ne];exact hl i hi hne))
  replace h0:H10 nx=some [.nl,.nl,.nl]:=(hk10 nx (by omega)).trans (by first|exact h0|(rw[blw_lt (by omega)];simp(disch:=omega)only[upd_ne];exact h0))
  try simp-dsimp-implicitDefEqProofs (disch:=omega)only[go_sem,prs,h0]
  refine hN _ ?_;try clear hN N
  refine AW.ret ?_;simp-dsimp-implicitDefEqProofs (disch:=omega)only[go_sem];exact⟨_,fun _ _ h=>h,_,.refl _,⟨os,X,Y,rfl,by first|exact hsh|exact hsh.more (by omega)⟩,hg.keep (by simp(disch:=omega)only[upd_ne]),fun i hi hne=>by simp(disch:=omega)only[upd_ne];exact hl i hi hne⟩
 try simp only[cn]at h5
 refine AW.sr envOk (fun N hN=>?_);simp-dsimp-implicitDefEqProofs (disch:=omega)only[go_sem,prs];refine hN _ ?_;try clear hN N
 refine AW.cond rfl (fun h6=>?_) (fun h6=>?_)
 ·try simp only[cn]at h6
  refine AW.seq (fun N5 hN5=>?_);refine AW.sr envOk (fun N hN=>?_);simp-dsimp-implicitDefEqProofs (disch:=omega)only[go_sem,prs];refine(spec_l01Next_s (hg.keep (by first|rfl|(simp(disch:=omega)only[upd_ne]))) 6 (by omega) _).mono2 ?_
  rintro m11 H11 r11 hm11 ⟨⟨x11,rfl,hx11⟩,hg11,hk11⟩
  replace hl:∀i,i<nx→i≠sid→H11 i=H i:=fun i hi hne=>(hk11 i (by omega) hne).trans (by first|exact hl i hi hne|(simp(disch:=omega)only[upd_ne];exact hl i hi hne))
  replace h0:H11 nx=some [.nl,.nl,.nl]:=(hk11 nx (by omega) (by omega)).trans (by first|exact h0|(simp(disch:=omega)only[upd_ne];exact h0))
  replace hg:=hg11
  clear hg11
  try simp-dsimp-implicitDefEqProofs (disch:=omega)only[go_sem,prs]
  refine hN _ ?_;try clear hN N
  refine AW.block ?_;refine AW.sr envOk (fun N hN=>?_);simp-dsimp-implicitDefEqProofs (disch:=omega)only[go_sem,prs];refine hN _ ?_;try clear hN N
  refine AW.cond rfl (fun h7=>?_) (fun h7=>?_)
  ·try simp only[cn]at h7
   refine AW.sr envOk (fun N hN=>?_);simp-dsimp-implicitDefEqProofs (disch:=omega)only[go_sem,prs];refine(spec_l07Meta_z 3 7 2 0 (by omega) (by omega) (by omega) (by omega) _ _).mono2 ?_
   rintro m12 H12 r12 hm12 ⟨⟨os,X,Y,rfl,hsh⟩,hk12⟩
   replace hg:srcOk bs sid H12:=hg.keep ((hk12 sid (by omega)).trans (by first|rfl|(rw[blw_lt (by omega)];simp(disch:=omega)only[upd_ne])))
   replace hl:∀i,i<nx→i≠sid→H12 i=H i:=fun i hi hne=>(hk12 i (by omega)).trans (by first|exact hl i hi hne|(rw[blw_lt (by omega)];simp(disch:=omega)only[upd_ne];exact hl i hi hne))
   replace h0:H12 nx=some [.nl,.nl,.nl]:=(hk12 nx (by omega)).trans (by first|exact h0|(rw[blw_lt (by omega)];simp(disch:=omega)only[upd_ne];exact h0))
   try simp-dsimp-implicitDefEqProofs (disch:=omega)only[go_sem,prs,h0]
   refine hN _ ?_;try clear hN N
   refine AW.ret ?_;simp-dsimp-implicitDefEqProofs (disch:=omega)only[go_sem];exact⟨_,fun _ _ h=>h,_,.refl _,⟨os,X,Y,rfl,by first|exact hsh|exact hsh.more (by omega)⟩,hg.keep (by simp(disch:=omega)only[upd_ne]),fun i hi hne=>by simp(disch:=omega)only[upd_ne];exact hl i hi hne⟩
  try simp only[cn]at h7
  refine AW.sr envOk (fun N hN=>?_);simp-dsimp-implicitDefEqProofs (disch:=omega)only[go_sem,prs];refine hN _ ?_;try clear hN N
  refine AW.cond rfl (fun h8=>?_) (fun h8=>?_)
  ·try simp only[cn]at h8
   refine AW.sr envOk (fun N hN=>?_);simp-dsimp-implicitDefEqProofs (disch:=omega)only[go_sem,prs];refine(spec_l07Meta_z 4 5 2 0 (by omega) (by omega) (by omega) (by omega) _ _).mono2 ?_
   rintro m13 H13 r13 hm13 ⟨⟨os,X,Y,rfl,hsh⟩,hk13⟩
   replace hg:srcOk bs sid H13:=hg.keep ((hk13 sid (by omega)).trans (by first|rfl|(rw[blw_lt (by omega)];simp(disch:=omega)only[upd_ne])))
   replace hl:∀i,i<nx→i≠sid→H13 i=H i:=fun i hi hne=>(hk13 i (by omega)).trans (by first|exact hl i hi hne|(rw[blw_lt (by omega)];simp(disch:=omega)only[upd_ne];exact hl i hi hne))
   replace h0:H13 nx=some [.nl,.nl,.nl]:=(hk13 nx (by omega)).trans (by first|exact h0|(rw[blw_lt (by omega)];simp(disch:=omega)only[upd_ne];exact h0))
   try simp-dsimp-implicitDefEqProofs (disch:=omega)only[go_sem,prs,h0]
   refine hN _ ?_;try clear hN N
   refine AW.ret ?_;simp-dsimp-implicitDefEqProofs (disch:=omega)only[go_sem];exact⟨_,fun _ _ h=>h,_,.refl _,⟨os,X,Y,rfl,by first|exact hsh|exact hsh.more (by omega)⟩,hg.keep (by simp(disch:=omega)only[upd_ne]),fun i hi hne=>by simp(disch:=omega)only[upd_ne];exact hl i hi hne⟩
  try simp only[cn]at h8
  refine AW.sr envOk (fun N hN=>?_);simp-dsimp-implicitDefEqProofs (disch:=omega)only[go_sem,prs];refine hN _ ?_;try clear hN N
  refine AW.cond rfl (fun h9=>?_) (fun h9=>?_)
  ·try simp only[cn]at h9
   refine AW.sr envOk (fun N hN=>?_);simp-dsimp-implicitDefEqProofs (disch:=omega)only[go_sem,prs];refine(spec_l07Meta_z 2 8 3 0 (by omega) (by omega) (by omega) (by omega) _ _).mono2 ?_
   rintro m14 H14 r14 hm14 ⟨⟨os,X,Y,rfl,hsh⟩,hk14⟩
   replace hg:srcOk bs sid H14:=hg.keep ((hk14 sid (by omega)).trans (by first|rfl|(rw[blw_lt (by omega)];simp(disch:=omega)only[upd_ne])))
   replace hl:∀i,i<nx→i≠sid→H14 i=H i:=fun i hi hne=>(hk14 i (by omega)).trans (by first|exact hl i hi hne|(rw[blw_lt (by omega)];simp(disch:=omega)only[upd_ne];exact hl i hi hne))
   replace h0:H14 nx=some [.nl,.nl,.nl]:=(hk14 nx (by omega)).trans (by first|exact h0|(rw[blw_lt (by omega)];simp(disch:=omega)only[upd_ne];exact h0))
   try simp-dsimp-implicitDefEqProofs (disch:=omega)only[go_sem,prs,h0]
   refine hN _ ?_;try clear hN N
   refine AW.ret ?_;simp-dsimp-implicitDefEqProofs (disch:=omega)only[go_sem];exact⟨_,fun _ _ h=>h,_,.refl _,⟨os,X,Y,rfl,by first|exact hsh|exact hsh.more (by omega)⟩,hg.keep (by simp(disch:=omega)only[upd_ne]),fun i hi hne=>by simp(disch:=omega)only[upd_ne];exact hl i hi hne⟩
  try simp only[cn]at h9
  refine AW.sr envOk (fun N hN=>?_);simp-dsimp-implicitDefEqProofs (disch:=omega)only[go_sem,prs];refine hN _ ?_;try clear hN N
  refine AW.cond rfl (fun h10=>?_) (fun h10=>?_)
  ·try simp only[cn]at h10
   refine AW.sr envOk (fun N hN=>?_);simp-dsimp-implicitDefEqProofs (disch:=omega)only[go_sem,prs];refine(spec_l07Meta_z 2 8 5 0 (by omega) (by omega) (by omega) (by omega) _ _).mono2 ?_
   rintro m15 H15 r15 hm15 ⟨⟨os,X,Y,rfl,hsh⟩,hk15⟩
   replace hg:srcOk bs sid H15:=hg.keep ((hk15 sid (by omega)).trans (by first|rfl|(rw[blw_lt (by omega)];simp(disch:=omega)only[upd_ne])))
   replace hl:∀i,i<nx→i≠sid→H15 i=H i:=fun i hi hne=>(hk15 i (by omega)).trans (by first|exact hl i hi hne|(rw[blw_lt (by omega)];simp(disch:=omega)only[upd_ne];exact hl i hi hne))
   replace h0:H15 nx=some [.nl,.nl,.nl]:=(hk15 nx (by omega)).trans (by first|exact h0|(rw[blw_lt (by omega)];simp(disch:=omega)only[upd_ne];exact h0))
   try simp-dsimp-implicitDefEqProofs (disch:=omega)only[go_sem,prs,h0]
   refine hN _ ?_;try clear hN N
   refine AW.ret ?_;simp-dsimp-implicitDefEqProofs (disch:=omega)only[go_sem];exact⟨_,fun _ _ h=>h,_,.refl _,⟨os,X,Y,rfl,by first|exact hsh|exact hsh.more (by omega)⟩,hg.keep (by simp(disch:=omega)only[upd_ne]),fun i hi hne=>by simp(disch:=omega)only[upd_ne];exact hl i hi hne⟩
  try simp only[cn]at h10
  refine AW.sr envOk (fun N hN=>?_);simp-dsimp-implicitDefEqProofs (disch:=omega)only[go_sem,prs];refine hN _ ?_;try clear hN N
  refine AW.cond rfl (fun h11=>?_) (fun h11=>?_)
  ·try simp only[cn]at h11
   refine AW.sr envOk (fun N hN=>?_);simp-dsimp-implicitDefEqProofs (disch:=omega)only[go_sem,prs];refine(spec_l07Meta_z 4 4 3 0 (by omega) (by omega) (by omega) (by omega) _ _).mono2 ?_
   rintro m16 H16 r16 hm16 ⟨⟨os,X,Y,rfl,hsh⟩,hk16⟩
   replace hg:srcOk bs sid H16:=hg.keep ((hk16 sid (by omega)).trans (by first|rfl|(rw[blw_lt (by omega)];simp(disch:=omega)only[upd_ne])))
   replace hl:∀i,i<nx→i≠sid→H16 i=H i:=fun i hi hne=>(hk16 i (by omega)).trans (by first|exact hl i hi hne|(rw[blw_lt (by omega)];simp(disch:=omega)only[upd_ne];exact hl i hi hne))
   replace h0:H16 nx=some [.nl,.nl,.nl]:=(hk16 nx (by omega)).trans (by first|exact h0|(rw[blw_lt (by omega)];simp(disch:=omega)only[upd_ne];exact h0))
   try simp-dsimp-implicitDefEqProofs (disch:=omega)only[go_sem,prs,h0]
   refine hN _ ?_;try clear hN N
   refine AW.ret ?_;simp-dsimp-implicitDefEqProofs (disch:=omega)only[go_sem];exact⟨_,fun _ _ h=>h,_,.refl _,⟨os,X,Y,rfl,by first|exact hsh|exact hsh.more (by omega)⟩,hg.keep (by simp(disch:=omega)only[upd_ne]),fun i hi hne=>by simp(disch:=omega)only[upd_ne];exact hl i hi hne⟩
  try simp only[cn]at h11
  refine AW.skip ?_;simp only[thn,blk];refine hN5 _ ?_;try clear hN5 N5
  refine AW.sr envOk (fun N hN=>?_);simp-dsimp-implicitDefEqProofs (disch:=omega)only[go_sem,prs];refine(spec_l07Meta_z 3 9 4 0 (by omega) (by omega) (by omega) (by omega) _ _).mono2 ?_
  rintro m17 H17 r17 hm17 ⟨⟨os,X,Y,rfl,hsh⟩,hk17⟩
  replace hg:srcOk bs sid H17:=hg.keep ((hk17 sid (by omega)).trans (by first|rfl|(rw[blw_lt (by omega)];simp(disch:=omega)only[upd_ne])))
  replace hl:∀i,i<nx→i≠sid→H17 i=H i:=fun i hi hne=>(hk17 i (by omega)).trans (by first|exact hl i hi hne|(rw[blw_lt (by omega)];simp(disch:=omega)only[upd_ne];exact hl i hi hne))
  replace h0:H17 nx=some [.nl,.nl,.nl]:=(hk17 nx (by omega)).trans (by first|exact h0|(rw[blw_lt (by omega)];simp(disch:=omega)only[upd_ne];exact h0))
  try simp-dsimp-implicitDefEqProofs (disch:=omega)only[go_sem,prs,h0]
  refine hN _ ?_;try clear hN N
  refine AW.ret ?_;simp-dsimp-implicitDefEqProofs (disch:=omega)only[go_sem];exact⟨_,fun _ _ h=>h,_,.refl _,⟨os,X,Y,rfl,by first|exact hsh|exact hsh.more (by omega)⟩,hg.keep (by simp(disch:=omega)only[upd_ne]),fun i hi hne=>by simp(disch:=omega)only[upd_ne];exact hl i hi hne⟩
 try simp only[cn]at h6
 refine AW.sr envOk (fun N hN=>?_);simp-dsimp-implicitDefEqProofs (disch:=omega)only[go_sem,prs];refine hN _ ?_;try clear hN N
 refine AW.cond rfl (fun h12=>?_) (fun h12=>?_)
 ·try simp only[cn]at h12
  refine AW.sr envOk (fun N hN=>?_);simp-dsimp-implicitDefEqProofs (disch:=omega)only[go_sem,prs,↓a_bs5i]
  refine(spec_l01Pick_s (hg.keep (by first|rfl|(simp(disch:=omega)only[upd_ne]))) [2,3,2,3,5] 5 (upd_same _ _ _) rfl (by omega) (by omega) _ (by omega) (by omega) (by omega)).mono2 ?_
  rintro m18 H18 r18 hm18 ⟨⟨x18,rfl,hx18⟩,hg18,hk18⟩
  have hb18:2≤x18∧x18≤7:=by simp at hx18;omega
  replace hl:∀i,i<nx→i≠sid→H18 i=H i:=fun i hi hne=>(hk18 i (by omega) hne).trans (by first|exact hl i hi hne|(simp(disch:=omega)only[upd_ne];exact hl i hi hne))
  replace h0:H18 nx=some [.nl,.nl,.nl]:=(hk18 nx (by omega) (by omega)).trans (by first|exact h0|(simp(disch:=omega)only[upd_ne];exact h0))
  replace hg:=hg18
  clear hg18
  try simp-dsimp-implicitDefEqProofs (disch:=omega)only[go_sem,prs]
  refine(spec_l07Heisenberg_s hg x18 hb18 _ (by omega)).mono2 ?_
  rintro m19 H19 r19 hm19 ⟨⟨os,X,Y,rfl,hsh⟩,hg19,hk19⟩
  replace hl:∀i,i<nx→i≠sid→H19 i=H i:=fun i hi hne=>(hk19 i (by omega) hne).trans (by first|exact hl i hi hne|(simp(disch:=omega)only[upd_ne];exact hl i hi hne))
  replace h0:H19 nx=some [.nl,.nl,.nl]:=(hk19 nx (by omega) (by omega)).trans (by first|exact h0|(simp(disch:=omega)only[upd_ne];exact h0))
  replace hg:=hg19
  clear hg19
  try simp-dsimp-implicitDefEqProofs (disch:=omega)only[go_sem,prs,h0]
  refine hN _ ?_;try clear hN N
  refine AW.ret ?_;simp-dsimp-implicitDefEqProofs (disch:=omega)only[go_sem];exact⟨_,fun _ _ h=>h,_,.refl _,⟨os,X,Y,rfl,by first|exact hsh|exact hsh.more (by omega)⟩,hg.keep (by simp(disch:=omega)only[upd_ne]),fun i hi hne=>by simp(disch:=omega)only[upd_ne];exact hl i hi hne⟩
 try simp only[cn]at h12
 refine AW.sr envOk (fun N hN=>?_);simp-dsimp-implicitDefEqProofs (disch:=omega)only[go_sem,prs];refine hN _ ?_;try clear hN N
 refine AW.cond rfl (fun h13=>?_) (fun h13=>?_)
 ·try simp only[cn]at h13
  refine AW.seq (fun N6 hN6=>?_);refine AW.sr envOk (fun N hN=>?_);simp-dsimp-implicitDefEqProofs (disch:=omega)only[go_sem,prs];refine(spec_l01Next_s (hg.keep (by first|rfl|(simp(disch:=omega)only[upd_ne]))) 6 (by omega) _).mono2 ?_
  rintro m20 H20 r20 hm20 ⟨⟨x20,rfl,hx20⟩,hg20,hk20⟩
  replace hl:∀i,i<nx→i≠sid→H20 i=H i:=fun i hi hne=>(hk20 i (by omega) hne).trans (by first|exact hl i hi hne|(simp(disch:=omega)only[upd_ne];exact hl i hi hne))
  replace h0:H20 nx=some [.nl,.nl,.nl]:=(hk20 nx (by omega) (by omega)).trans (by first|exact h0|(simp(disch:=omega)only[upd_ne];exact h0))
  replace hg:=hg20
  clear hg20
  try simp-dsimp-implicitDefEqProofs (disch:=omega)only[go_sem,prs]
  refine hN _ ?_;try clear hN N
  refine AW.block ?_;refine AW.sr envOk (fun N hN=>?_);simp-dsimp-implicitDefEqProofs (disch:=omega)only[go_sem,prs];refine hN _ ?_;try clear hN N
  refine AW.cond rfl (fun h14=>?_) (fun h14=>?_)
  ·try simp only[cn]at h14
   refine AW.sr envOk (fun N hN=>?_);simp-dsimp-implicitDefEqProofs (disch:=omega)only[go_sem,prs];refine AC.fz (ts:=[.i .i64 3,rows [[2,0],[0,2]],.i .i64 2]) FzH.blw ⟨.refl _,fz_rows (b:=m20+2) (W:=[[2,0],[0,2]]) (upd_same _ _ _) (by omega) rfl (fun k hk=>by
    match k,hk with
    |0,hk=>exact⟨_,rfl,by omega,by simp(disch:=omega)only[upd_ne,upd_same];rfl⟩
    |1,hk=>exact⟨_,rfl,by omega,by simp(disch:=omega)only[upd_ne,upd_same];rfl⟩),.refl _,trivial⟩ ?_
   refine(spec_l07Affine_z 3 2 [[2,0],[0,2]] 2 (by omega) (by omega) sqm21 (by omega) _ _).mono2 ?_
   rintro m21 H21 r21 hm21 ⟨⟨os,X,Y,rfl,hsh⟩,hk21⟩
   replace hg:srcOk bs sid H21:=hg.keep ((hk21 sid (by omega)).trans (by first|rfl|(rw[blw_lt (by omega)];simp(disch:=omega)only[upd_ne])))
   replace hl:∀i,i<nx→i≠sid→H21 i=H i:=fun i hi hne=>(hk21 i (by omega)).trans (by first|exact hl i hi hne|(rw[blw_lt (by omega)];simp(disch:=omega)only[upd_ne];exact hl i hi hne))
   replace h0:H21 nx=some [.nl,.nl,.nl]:=(hk21 nx (by omega)).trans (by first|exact h0|(rw[blw_lt (by omega)];simp(disch:=omega)only[upd_ne];exact h0))
   try simp-dsimp-implicitDefEqProofs (disch:=omega)only[go_sem,prs,h0]
   refine hN _ ?_;try clear hN N
   refine AW.ret ?_;simp-dsimp-implicitDefEqProofs (disch:=omega)only[go_sem];exact⟨_,fun _ _ h=>h,_,.refl _,⟨os,X,Y,rfl,by first|exact hsh|exact hsh.more (by omega)⟩,hg.keep (by simp(disch:=omega)only[upd_ne]),fun i hi hne=>by simp(disch:=omega)only[upd_ne];exact hl i hi hne⟩
  try simp only[cn]at h14
  refine AW.sr envOk (fun N hN=>?_);simp-dsimp-implicitDefEqProofs (disch:=omega)only[go_sem,prs];refine hN _ ?_;try clear hN N
  refine AW.cond rfl (fun h15=>?_) (fun h15=>?_)
  ·try simp only[cn]at h15
   refine AW.sr envOk (fun N hN=>?_);simp-dsimp-implicitDefEqProofs (disch:=omega)only[go_sem,prs];refine AC.fz (ts:=[.i .i64 3,rows [[0,1],[2,0]],.i .i64 4]) FzH.blw ⟨.refl _,fz_rows (b:=m20+2+2) (W:=[[0,1],[2,0]]) (upd_same _ _ _) (by omega) rfl (fun k hk=>by
    match k,hk with
    |0,hk=>exact⟨_,rfl,by omega,by simp(disch:=omega)only[upd_ne,upd_same];rfl⟩
    |1,hk=>exact⟨_,rfl,by omega,by simp(disch:=omega)only[upd_ne,upd_same];rfl⟩),.refl _,trivial⟩ ?_
   refine(spec_l07Affine_z 3 4 [[0,1],[2,0]] 2 (by omega) (by omega) sqm22 (by omega) _ _).mono2 ?_
   rintro m22 H22 r22 hm22 ⟨⟨os,X,Y,rfl,hsh⟩,hk22⟩
   replace hg:srcOk bs sid H22:=hg.keep ((hk22 sid (by omega)).trans (by first|rfl|(rw[blw_lt (by omega)];simp(disch:=omega)only[upd_ne])))
   replace hl:∀i,i<nx→i≠sid→H22 i=H i:=fun i hi hne=>(hk22 i (by omega)).trans (by first|exact hl i hi hne|(rw[blw_lt (by omega)];simp(disch:=omega)only[upd_ne];exact hl i hi hne))
   replace h0:H22 nx=some [.nl,.nl,.nl]:=(hk22 nx (by omega)).trans (by first|exact h0|(rw[blw_lt (by omega)];simp(disch:=omega)only[upd_ne];exact h0))
   try simp-dsimp-implicitDefEqProofs (disch:=omega)only[go_sem,prs,h0]
   refine hN _ ?_;try clear hN N
   refine AW.ret ?_;simp-dsimp-implicitDefEqProofs (disch:=omega)only[go_sem];exact⟨_,fun _ _ h=>h,_,.refl _,⟨os,X,Y,rfl,by first|exact hsh|exact hsh.more (by omega)⟩,hg.keep (by simp(disch:=omega)only[upd_ne]),fun i hi hne=>by simp(disch:=omega)only[upd_ne];exact hl i hi hne⟩
  try simp only[cn]at h15
  refine AW.sr envOk (fun N hN=>?_);simp-dsimp-implicitDefEqProofs (disch:=omega)only[go_sem,prs];refine hN _ ?_;try clear hN N
  refine AW.cond rfl (fun h16=>?_) (fun h16=>?_)
  ·try simp only[cn]at h16
   refine AW.sr envOk (fun N hN=>?_);simp-dsimp-implicitDefEqProofs (disch:=omega)only[go_sem,prs];refine AC.fz (ts:=[.i .i64 2,rows [[0,1,0],[0,0,1],[1,1,0]],.i .i64 7]) FzH.blw ⟨.refl _,fz_rows (b:=m20+2+2+2) (W:=[[0,1,0],[0,0,1],[1,1,0]]) (upd_same _ _ _) (by omega) rfl (fun k hk=>by
    match k,hk with
    |0,hk=>exact⟨_,rfl,by omega,by simp(disch:=omega)only[upd_ne,upd_same];rfl⟩
    |1,hk=>exact⟨_,rfl,by omega,by simp(disch:=omega)only[upd_ne,upd_same];rfl⟩
    |2,hk=>exact⟨_,rfl,by omega,by simp(disch:=omega)only[upd_ne,upd_same];rfl⟩),.refl _,trivial⟩ ?_
   refine(spec_l07Affine_z 2 7 [[0,1,0],[0,0,1],[1,1,0]] 3 (by omega) (by omega) sqm23 (by omega) _ _).mono2 ?_
   rintro m23 H23 r23 hm23 ⟨⟨os,X,Y,rfl,hsh⟩,hk23⟩
   replace hg:srcOk bs sid H23:=hg.keep ((hk23 sid (by omega)).trans (by first|rfl|(rw[blw_lt (by omega)];simp(disch:=omega)only[upd_ne])))
   replace hl:∀i,i<nx→i≠sid→H23 i=H i:=fun i hi hne=>(hk23 i (by omega)).trans (by first|exact hl i hi hne|(rw[blw_lt (by omega)];simp(disch:=omega)only[upd_ne];exact hl i hi hne))
   replace h0:H23 nx=some [.nl,.nl,.nl]:=(hk23 nx (by omega)).trans (by first|exact h0|(rw[blw_lt (by omega)];simp(disch:=omega)only[upd_ne];exact h0))
   try simp-dsimp-implicitDefEqProofs (disch:=omega)only[go_sem,prs,h0]
   refine hN _ ?_;try clear hN N
   refine AW.ret ?_;simp-dsimp-implicitDefEqProofs (disch:=omega)only[go_sem];exact⟨_,fun _ _ h=>h,_,.refl _,⟨os,X,Y,rfl,by first|exact hsh|exact hsh.more (by omega)⟩,hg.keep (by simp(disch:=omega)only[upd_ne]),fun i hi hne=>by simp(disch:=omega)only[upd_ne];exact hl i hi hne⟩
  try simp only[cn]at h16
  refine AW.sr envOk (fun N hN=>?_);simp-dsimp-implicitDefEqProofs (disch:=omega)only[go_sem,prs];refine hN _ ?_;try clear hN N
  refine AW.cond rfl (fun h17=>?_) (fun h17=>?_)
  ·try simp only[cn]at h17
   refine AW.sr envOk (fun N hN=>?_);simp-dsimp-implicitDefEqProofs (disch:=omega)only[go_sem,prs];refine AC.fz (ts:=[.i .i64 2,rows [[1,1,0],[0,1,1],[0,0,1]],.i .i64 4]) FzH.blw ⟨.refl _,fz_rows (b:=m20+2+2+2+2) (W:=[[1,1,0],[0,1,1],[0,0,1]]) (upd_same _ _ _) (by omega) rfl (fun k hk=>by
    match k,hk with
    |0,hk=>exact⟨_,rfl,by omega,by simp(disch:=omega)only[upd_ne,upd_same];rfl⟩
    |1,hk=>exact⟨_,rfl,by omega,by simp(disch:=omega)only[upd_ne,upd_same];rfl⟩
    |2,hk=>exact⟨_,rfl,by omega,by simp(disch:=omega)only[upd_ne,upd_same];rfl⟩),.refl _,trivial⟩ ?_
   refine(spec_l07Affine_z 2 4 [[1,1,0],[0,1,1],[0,0,1]] 3 (by omega) (by omega) sqm24 (by omega) _ _).mono2 ?_
   rintro m24 H24 r24 hm24 ⟨⟨os,X,Y,rfl,hsh⟩,hk24⟩
   replace hg:srcOk bs sid H24:=hg.keep ((hk24 sid (by omega)).trans (by first|rfl|(rw[blw_lt (by omega)];simp(disch:=omega)only[upd_ne])))
   replace hl:∀i,i<nx→i≠sid→H24 i=H i:=fun i hi hne=>(hk24 i (by omega)).trans (by first|exact hl i hi hne|(rw[blw_lt (by omega)];simp(disch:=omega)only[upd_ne];exact hl i hi hne))
   replace h0:H24 nx=some [.nl,.nl,.nl]:=(hk24 nx (by omega)).trans (by first|exact h0|(rw[blw_lt (by omega)];simp(disch:=omega)only[upd_ne];exact h0))
   try simp-dsimp-implicitDefEqProofs (disch:=omega)only[go_sem,prs,h0]
   refine hN _ ?_;try clear hN N
   refine AW.ret ?_;simp-dsimp-implicitDefEqProofs (disch:=omega)only[go_sem];exact⟨_,fun _ _ h=>h,_,.refl _,⟨os,X,Y,rfl,by first|exact hsh|exact hsh.more (by omega)⟩,hg.keep (by simp(disch:=omega)only[upd_ne]),fun i hi hne=>by simp(disch:=omega)only[upd_ne];exact hl i hi hne⟩
  try simp only[cn]at h17
  refine AW.sr envOk (fun N hN=>?_);simp-dsimp-implicitDefEqProofs (disch:=omega)only[go_sem,prs];refine hN _ ?_;try clear hN N
  refine AW.cond rfl (fun h18=>?_) (fun h18=>?_)
  ·try simp only[cn]at h18
   refine AW.sr envOk (fun N hN=>?_);simp-dsimp-implicitDefEqProofs (disch:=omega)only[go_sem,prs];refine AC.fz (ts:=[.i .i64 2,rows [[0,1,0,0],[1,0,0,0],[0,0,0,1],[0,0,1,0]],.i .i64 2]) FzH.blw ⟨.refl _,fz_rows (b:=m20+2+2+2+2+2) (W:=[[0,1,0,0],[1,0,0,0],[0,0,0,1],[0,0,1,0]]) (upd_same _ _ _) (by omega) rfl (fun k hk=>by
    match k,hk with
    |0,hk=>exact⟨_,rfl,by omega,by simp(disch:=omega)only[upd_ne,upd_same];rfl⟩
    |1,hk=>exact⟨_,rfl,by omega,by simp(disch:=omega)only[upd_ne,upd_same];rfl⟩
    |2,hk=>exact⟨_,rfl,by omega,by simp(disch:=omega)only[upd_ne,upd_same];rfl⟩
    |3,hk=>exact⟨_,rfl,by omega,by simp(disch:=omega)only[upd_ne,upd_same];rfl⟩),.refl _,trivial⟩ ?_
   refine(spec_l07Affine_z 2 2 [[0,1,0,0],[1,0,0,0],[0,0,0,1],[0,0,1,0]] 4 (by omega) (by omega) sqm25 (by omega) _ _).mono2 ?_
   rintro m25 H25 r25 hm25 ⟨⟨os,X,Y,rfl,hsh⟩,hk25⟩
   replace hg:srcOk bs sid H25:=hg.keep ((hk25 sid (by omega)).trans (by first|rfl|(rw[blw_lt (by omega)];simp(disch:=omega)only[upd_ne])))
   replace hl:∀i,i<nx→i≠sid→H25 i=H i:=fun i hi hne=>(hk25 i (by omega)).trans (by first|exact hl i hi hne|(rw[blw_lt (by omega)];simp(disch:=omega)only[upd_ne];exact hl i hi hne))
   replace h0:H25 nx=some [.nl,.nl,.nl]:=(hk25 nx (by omega)).trans (by first|exact h0|(rw[blw_lt (by omega)];simp(disch:=omega)only[upd_ne];exact h0))
   try simp-dsimp-implicitDefEqProofs (disch:=omega)only[go_sem,prs,h0]
   refine hN _ ?_;try clear hN N
   refine AW.ret ?_;simp-dsimp-implicitDefEqProofs (disch:=omega)only[go_sem];exact⟨_,fun _ _ h=>h,_,.refl _,⟨os,X,Y,rfl,by first|exact hsh|exact hsh.more (by omega)⟩,hg.keep (by simp(disch:=omega)only[upd_ne]),fun i hi hne=>by simp(disch:=omega)only[upd_ne];exact hl i hi hne⟩
  try simp only[cn]at h18
  refine AW.skip ?_;simp only[thn,blk];refine hN6 _ ?_;try clear hN6 N6
  refine AW.sr envOk (fun N hN=>?_);simp-dsimp-implicitDefEqProofs (disch:=omega)only[go_sem,prs];refine AC.fz (ts:=[.i .i64 5,rows [[0,1],[4,4]],.i .i64 3]) FzH.blw ⟨.refl _,fz_rows (b:=m20+2+2+2+2+2) (W:=[[0,1],[4,4]]) (upd_same _ _ _) (by omega) rfl (fun k hk=>by
   match k,hk with
   |0,hk=>exact⟨_,rfl,by omega,by simp(disch:=omega)only[upd_ne,upd_same];rfl⟩
   |1,hk=>exact⟨_,rfl,by omega,by simp(disch:=omega)only[upd_ne,upd_same];rfl⟩),.refl _,trivial⟩ ?_
  refine(spec_l07Affine_z 5 3 [[0,1],[4,4]] 2 (by omega) (by omega) sqm26 (by omega) _ _).mono2 ?_
  rintro m26 H26 r26 hm26 ⟨⟨os,X,Y,rfl,hsh⟩,hk26⟩
  replace hg:srcOk bs sid H26:=hg.keep ((hk26 sid (by omega)).trans (by first|rfl|(rw[blw_lt (by omega)];simp(disch:=omega)only[upd_ne])))
  replace hl:∀i,i<nx→i≠sid→H26 i=H i:=fun i hi hne=>(hk26 i (by omega)).trans (by first|exact hl i hi hne|(rw[blw_lt (by omega)];simp(disch:=omega)only[upd_ne];exact hl i hi hne))
  replace h0:H26 nx=some [.nl,.nl,.nl]:=(hk26 nx (by omega)).trans (by first|exact h0|(rw[blw_lt (by omega)];simp(disch:=omega)only[upd_ne];exact h0))
  try simp-dsimp-implicitDefEqProofs (disch:=omega)only[go_sem,prs,h0]
  refine hN _ ?_;try clear hN N
  refine AW.ret ?_;simp-dsimp-implicitDefEqProofs (disch:=omega)only[go_sem];exact⟨_,fun _ _ h=>h,_,.refl _,⟨os,X,Y,rfl,by first|exact hsh|exact hsh.more (by omega)⟩,hg.keep (by simp(disch:=omega)only[upd_ne]),fun i hi hne=>by simp(disch:=omega)only[upd_ne];exact hl i hi hne⟩
 try simp only[cn]at h13
 refine AW.skip ?_;simp only[thn,blk];refine hN1 _ ?_;try clear hN1 N1
 refine AW.sr envOk (fun N hN=>?_);simp-dsimp-implicitDefEqProofs (disch:=omega)only[go_sem,prs];refine(spec_l01Next_s (hg.keep (by first|rfl|(simp(disch:=omega)only[upd_ne]))) 10 (by omega) _).mono2 ?_
 rintro m27 H27 r27 hm27 ⟨⟨x27,rfl,hx27⟩,hg27,hk27⟩
 obtain⟨k27,rfl⟩:∃k:Nat,x27=k:=⟨x27.toNat,by omega⟩
 replace hl:∀i,i<nx→i≠sid→H27 i=H i:=fun i hi hne=>(hk27 i (by omega) hne).trans (by first|exact hl i hi hne|(simp(disch:=omega)only[upd_ne];exact hl i hi hne))
 replace h0:H27 nx=some [.nl,.nl,.nl]:=(hk27 nx (by omega) (by omega)).trans (by first|exact h0|(simp(disch:=omega)only[upd_ne];exact h0))
 replace hg:=hg27
 clear hg27
 try simp-dsimp-implicitDefEqProofs (disch:=omega)only[go_sem,prs]
 refine(spec_l07Table_z k27 (by omega) _ _).mono2 ?_
 rintro m28 H28 r28 hm28 ⟨⟨os,X,Y,rfl,hsh⟩,hk28⟩
 replace hg:srcOk bs sid H28:=hg.keep ((hk28 sid (by omega)).trans (by first|rfl|(rw[blw_lt (by omega)];simp(disch:=omega)only[upd_ne])))
 replace hl:∀i,i<nx→i≠sid→H28 i=H i:=fun i hi hne=>(hk28 i (by omega)).trans (by first|exact hl i hi hne|(rw[blw_lt (by omega)];simp(disch:=omega)only[upd_ne];exact hl i hi hne))
 replace h0:H28 nx=some [.nl,.nl,.nl]:=(hk28 nx (by omega)).trans (by first|exact h0|(rw[blw_lt (by omega)];simp(disch:=omega)only[upd_ne];exact h0))
 try simp-dsimp-implicitDefEqProofs (disch:=omega)only[go_sem,prs,h0]
 refine hN _ ?_;try clear hN N
 refine AW.ret ?_;simp-dsimp-implicitDefEqProofs (disch:=omega)only[go_sem];exact⟨_,fun _ _ h=>h,_,.refl _,⟨os,X,Y,rfl,by first|exact hsh|exact hsh.more (by omega)⟩,hg.keep (by simp(disch:=omega)only[upd_ne]),fun i hi hne=>by simp(disch:=omega)only[upd_ne];exact hl i hi hne⟩
theorem spec_l07Family_s {bs:List Int} {sid:Nat} {H:HP} (hg:srcOk bs sid H) (nx:Nat) (hsn:sid<nx):AC Tryz.prog 115 nx H [.q sid 0] (sK bs sid nx H (preQ 12)):=AC.zs hsn (spec_l07Family_o hg nx hsn)
end Go.Proofs.YtghmeeifjeafmaaGreat
