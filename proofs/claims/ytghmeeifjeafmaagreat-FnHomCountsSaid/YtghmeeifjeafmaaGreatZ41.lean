import Derived.Test.YtghmeeifjeafmaaGreatZ32
import Derived.Test.YtghmeeifjeafmaaGreatZ39
set_option linter.unusedVariables false
set_option linter.unusedSimpArgs false
namespace Go.Proofs.YtghmeeifjeafmaaGreat
open Nat (reduceAdd reduceSub reduceGT reduceEqDiff reduceMul)
theorem spec_l01Own2_z (W:List (List Int)) (hW:rowslen W) (nx:Nat) (H:HP):AC Tryz.prog 65 nx H [rows W] (zK nx H (fun r=>r=rows W)):=by
  refine AC.zz ((spec_l01Own2_w W hW nx).mono fun nx' H' r ⟨cs,h⟩=>?_) H
  obtain⟨h1,ids,h2,h3,h4⟩:=h
  refine⟨rows W,?_,rfl⟩
  rw[rows_v]
  exact h2.fzTo fun i hi=>blw_ge (h4 i hi).1
set_option maxHeartbeats 4000000 in
theorem spec_l07Affine_o (pr n:Int) (W:List (List Int)) (q:Nat) (hpr:1≤pr∧pr≤10) (hq:q≤6) (hW:sqM q W) (hn:1≤n∧n≤64):∀nx,AC Tryz.prog 146 nx noH [.i .i64 pr,rows W,.i .i64 n] (fun nx' H' r=>∃r2,Fz H' (blw nx H') r r2∧preQ 12 r2):=by
 have hWl:=hW.l
 intro nx
 refine AC.intro' envOk Tryz.func146 rfl (by kernel_rfl) Tryz.ntmps146 Tryz.results146 (fun cX=>?_)
 refine AW.sr envOk (fun N hN=>?_);simp-dsimp-implicitDefEqProofs (disch:=omega)only[go_sem,prs,ints];refine hN _ ?_;try clear hN N
 refine AW.sr envOk (fun N hN=>?_);simp-dsimp-implicitDefEqProofs (disch:=omega)only[go_sem,prs,ints];refine(spec_l07Factors_z n hn.1 (by omega) _ _).mono2 ?_
 rintro m1 H1 r1 hm1 ⟨⟨fs,b1,rfl,hp1,hfs⟩,hlow1⟩
 have hfl:=(pow_len hp1 (by omega)).2 hn.2
 have h01:H1 nx=some [.nl,.nl,.nl]:=(hlow1 nx (by omega)).trans (upd_same _ _ _)
 try simp-dsimp-implicitDefEqProofs (disch:=omega)only[go_sem,ints]
 refine hN _ ?_;try clear hN N
 refine AW.sr envOk (fun N hN=>?_);simp-dsimp-implicitDefEqProofs (disch:=omega)only[go_sem,prs,ints];refine(spec_l01Own_ok fs (by omega) _ _).mono2 ?_
 rintro m2 H2 r2 hm2 ⟨id2,rfl,hi1,hi2,rfl⟩
 try simp-dsimp-implicitDefEqProofs (disch:=omega)only[go_sem,prs,ints]
 refine hN _ ?_;try clear hN N
 refine AW.seq (fun N1 hN1=>?_);refine AW.nameH (fun G0 hG0=>?_);dsimp only at hG0
 have h0n:G0 nx=some [.nl,.nl,.nl]:=by rw[←hG0];simp(disch:=omega)only[upd_ne];exact h01
 have hL0:LC G0 (nx+1) m2 (.h id2 0 fs.length) (fs.map (.i .i64)):= .inr ⟨id2,by rw[List.length_map],by rw[←hG0,upd_same,map_ivs],by omega,hi2⟩
 refine AW.sr envOk (fun N hN=>?_);simp-dsimp-implicitDefEqProofs (disch:=omega)only[go_sem,prs,ints];refine hN _ ?_;try clear hN N
 refine AW.block ?_;refine AW.loopN (α:=Nat×HP×AV) (fun x=>sl 102 [(0,.i .i64 pr),(1,rows W),(6,.q nx 0),(7,ints fs),(9,x.2.2),(10,.i .i64 x.1)]) (fun x=>x.2.1) (fun x m=>(x.1≤q∧m2≤m)∧x.2.1 nx=some [.nl,.nl,.nl]∧LC x.2.1 (nx+1) m x.2.2 ((fs++List.replicate x.1 pr).map (.i .i64))) (fun x=>q-x.1) ((0,G0,.h id2 0 fs.length)) ?_ ?_ (fun _ _ h=>h) ?_
 ·exact⟨⟨by simp,by first|omega|(simp only;omega)|(dsimp only;omega)⟩,h0n,by simpa using hL0.wide (Nat.le_refl _) (by first|omega|(simp only;omega)|(dsimp only;omega))⟩
 ·simp(disch:=omega) [wks,wkA,sl,w64,ints,rows]
 skip
 rintro⟨i,G,L⟩ m ⟨⟨hi,hm⟩,hG0,hL⟩
 simp-dsimp-implicitDefEqProofs (disch:=omega)only[go_sem];dsimp only at hi hm hG0 hL ⊢
 have hLo:=hL.one
 have hLl:=hL.len
 rw[List.length_map,List.length_append,List.length_replicate]at hLl
 refine AW.seq (fun N2 hN2=>?_);refine AW.sr envOk (fun N hN=>?_);simp-dsimp-implicitDefEqProofs (disch:=omega)only[go_sem,prs,ints,rows];refine hN _ ?_;try clear hN N
 refine AW.cond rfl (fun h1=>?_) (fun h1=>?_)
 ·try simp only[cn]at h1
  have hcl:((fs++List.replicate i pr).map (AV.i .i64)).length=fs.length+i:=by rw[List.length_map,List.length_append,List.length_replicate]
  refine AW.skip ?_;simp only[thn,blk];refine hN2 _ ?_;try clear hN2 N2
  refine AW.seq (fun N3 hN3=>?_);refine AW.block ?_;refine AW.regionL envOk ?_;simp-dsimp-implicitDefEqProofs (disch:=(first|omega|((repeat refine LC.upd (by omega) ?_);assumption))) only[go_sem,prs,ints,hLo,hLl,hcl,apst_LC (a:=nx+1) (b:=m) (L:=L) (cs:=(fs++List.replicate i pr).map (.i .i64))]
  refine hN3 _ ?_;try clear hN3 N3
  refine AW.nameH (fun G3 hG3=>?_);dsimp only at hG3
  refine AW.regionL envOk ?_;simp-dsimp-implicitDefEqProofs (disch:=omega)only[go_sem,prs,ints];refine⟨(i+1,G3,.h (m+4+3) 0 (fs.length+(i+1))),?_,fun _ _ h=>h,?_,?_⟩
  ·simp(disch:=omega) [wks,wkA,sl,w64,ints,rows]<;>omega
  ·have hmk:LC G3 (nx+1) (m+4+5+3) (.h (m+4+3) 0 (fs.length+(i+1))) ((fs++List.replicate (i+1) pr).map (.i .i64)):=LC.mk (by rw[←hG3];simp(disch:=omega)only[upd_ne,upd_same];simp[List.replicate_succ']) (by rw[List.length_map,List.length_append,List.length_replicate]) (by omega) (by omega)
   have hG30:G3 nx=some [.nl,.nl,.nl]:=by
    rw[←hG3]
    exact(upd_ne _ _ (by omega)).trans ((dl_ne (fun e=>by have:=hL.bd;omega)).trans ((upd_ne _ _ (by omega)).trans hG0))
   first|exact⟨⟨by first|omega|(simp only;omega)|(dsimp only;omega),by first|omega|(simp only;omega)|(dsimp only;omega)⟩,hG30,hmk⟩|exact⟨by first|omega|(simp only;omega)|(dsimp only;omega),hG30,hmk⟩
  first|omega|(simp only;omega)
 try simp only[cn]at h1
 have hiq:i=q:=by omega
 obtain⟨os,hos⟩:∃os,fs++List.replicate i pr=os:=⟨_,rfl⟩
 have hol:os.length=fs.length+q:=by rw[←hos,List.length_append,List.length_replicate,hiq]
 have hob:∀x∈os,-1000≤x∧x≤1000:=fun x hx=>by
  rw[←hos]at hx
  rcases List.mem_append.1 hx with h|h
  ·have:=hfs x h;omega
  have:=(List.mem_replicate.1 h).2;omega
 rw[hos]at hL
 refine AW.exit ?_;simp only[thn,blk,if_true];refine hN1 _ ?_;try clear hN1 N1
 refine AW.fzLCx 9 L (os.map (.i .i64)) rfl hL ?_
 rw[List.length_map]
 refine AW.nameH (fun G1 hG1=>?_);dsimp only at hG1
 have h1n:G1 nx=some [.nl,.nl,.nl]:=by rw[←hG1];exact(dl_ne (fun e=>by have:=hL.bd;omega)).trans hG0
 simp-dsimp-implicitDefEqProofs (disch:=omega)only[go_sem];refine AW.sr envOk (fun N hN=>?_);simp-dsimp-implicitDefEqProofs (disch:=omega)only[go_sem,prs,ints];refine(spec_l07Trivial_rg os (by omega) _ (.cons (.refl _) .nil)).mono2 ?_
 intro m4 H4 r4 hm4 hrg
 obtain⟨P,B,bc,rfl,hP1,hB1,hlow4,hbx⟩:=BxP.start (N:=12) (bx:=m+4+2) hrg (by omega) (by omega) hob (by omega)
 try simp-dsimp-implicitDefEqProofs (disch:=omega)only[go_sem,hP1,hB1,ints,Bool.and_true]
 refine hN _ ?_;try clear hN N
 refine AW.sr envOk (fun N hN=>?_);simp-dsimp-implicitDefEqProofs (disch:=omega)only[go_sem,prs,ints];refine hN _ ?_;try clear hN N
 refine AW.seq (fun N4 hN4=>?_);refine AW.nameH (fun G2 hG2=>?_);dsimp only at hG2
 have hb0:BxP 12 (m+4+4) m4 (m+4+2) os P B bc (trP os.length) (trC os.length) G2:=by rw[←hG2];exact hbx
 have h20:G2 nx=some [.nl,.nl,.nl]:=by rw[←hG2,upd_ne _ _ (by omega)];exact(hlow4 nx (by omega)).trans h1n
 obtain⟨bx,hbxe⟩:∃bx,m+4+2=bx:=⟨_,rfl⟩
 obtain⟨lo,hlo⟩:∃lo,m+4+4=lo:=⟨_,rfl⟩
 rw[hbxe,hlo]at hb0
 rw[hbxe]
 refine AW.sr envOk (fun N hN=>?_);simp-dsimp-implicitDefEqProofs (disch:=omega)only[go_sem,prs,ints];refine hN _ ?_;try clear hN N
 refine AW.block ?_;refine AW.loopN (α:=Nat×HP×List (List Int)) (fun x=>sl 102 [(0,.i .i64 pr),(1,rows W),(6,.q nx 0),(7,ints fs),(9,ints os),(11,.q bx 0),(12,.i .i64 fs.length),(13,.i .i64 x.1)]) (fun x=>x.2.1) (fun x m=>(x.1≤fs.length∧m4≤m)∧x.2.1 nx=some [.nl,.nl,.nl]∧BxP 12 lo m bx os P B bc x.2.2 (trC os.length) x.2.1) (fun x=>fs.length-x.1) ((0,G2,trP os.length)) ?_ ?_ (fun _ _ h=>h) ?_
 ·exact⟨⟨by simp,by first|omega|(simp only;omega)|(dsimp only;omega)⟩,h20,hb0.keep (fun _ _=>rfl) (by omega) (by first|omega|(simp only;omega)|(dsimp only;omega))⟩
 ·simp(disch:=omega) [wks,wkA,sl,w64,ints,rows]
 skip
 rintro⟨i,G,X⟩ m ⟨⟨hi,hm⟩,hG0,hbx⟩
 simp-dsimp-implicitDefEqProofs (disch:=omega)only[go_sem];dsimp only at hi hm hG0 hbx ⊢
 have hlt:=hbx.lt
 refine AW.seq (fun N5 hN5=>?_);refine AW.sr envOk (fun N hN=>?_);simp-dsimp-implicitDefEqProofs (disch:=omega)only[go_sem,prs,ints];refine hN _ ?_;try clear hN N
 refine AW.cond rfl (fun h2=>?_) (fun h2=>?_)
 ·try simp only[cn]at h2
  obtain⟨p,hPe,hbp,hp1,hp2,hp3,hput⟩:=hbx.setP (k:=i) (by omega)
  refine AW.skip ?_;simp only[thn,blk];refine hN5 _ ?_;try clear hN5 N5
  refine AW.seq (fun N6 hN6=>?_);refine AW.block ?_;refine AW.drawL envOk (by kernel_rfl) 9 (by kernel_rfl) ?_
  simp-dsimp-implicitDefEqProofs (disch:=omega)only[hr_nil,hr_one,hr_if,List.take_succ_cons,List.take_zero,List.drop_succ_cons,List.drop_zero,List.take_nil,List.drop_nil,go_sem,undef,w64,prs,ints,hbp,hp1,hp2];refine⟨_,.of (spec_l07Unit_p os.length (i+1) (by omega) (by omega)),?_⟩
  try simp-dsimp-implicitDefEqProofs (disch:=omega)only[go_sem,prs,ints,hbp,hp1,hp2]
  refine hN6 _ ?_;try clear hN6 N6
  refine AW.nameH (fun G3 hG3=>?_);dsimp only at hG3
  refine AW.regionL envOk ?_;simp-dsimp-implicitDefEqProofs (disch:=omega)only[go_sem,prs,ints];refine⟨(i+1,G3,X.set i (unL os.length (i+1))),?_,fun _ _ h=>h,?_,?_⟩
  ·simp(disch:=omega) [wks,wkA,sl,w64,ints,rows]
  ·have hb3:BxP 12 lo (m+4+10+3) bx os P B bc (X.set i (unL os.length (i+1))) (trC os.length) G3:=by rw[←hG3];exact hput _ _ (by rw[unL_len];omega) (by omega)
   have hG30:G3 nx=some [.nl,.nl,.nl]:=by rw[←hG3,upd_ne _ _ (by omega)];exact hG0
   first|exact⟨⟨by first|omega|(simp only;omega)|(dsimp only;omega),by first|omega|(simp only;omega)|(dsimp only;omega)⟩,hG30,hb3⟩|exact⟨by first|omega|(simp only;omega)|(dsimp only;omega),hG30,hb3⟩
  first|omega|(simp only;omega)
 try simp only[cn]at h2
 refine AW.exit ?_;simp only[thn,blk,if_true];refine hN4 _ ?_;try clear hN4 N4
 refine AW.sr envOk (fun N hN=>?_);simp-dsimp-implicitDefEqProofs (disch:=omega)only[go_sem,prs,ints];refine(spec_l01Own2_z W ⟨by omega,fun w hw=>by have:=(hW.r w hw).1;omega⟩ _ _).mono2 ?_
 rintro m5 H5 r5 hm5 ⟨rfl,hlow5⟩
 have hb5:=hbx.keep (G':=H5) (m':=m5+1) (fun j hj=>hlow5 j (by omega)) (by omega) (by omega)
 have h50:=(hlow5 nx (by omega)).trans hG0
 try simp-dsimp-implicitDefEqProofs (disch:=omega)only[go_sem,prs,ints]
 refine hN _ ?_;try clear hN N
 refine AW.seq (fun N7 hN7=>?_);refine AW.sr envOk (fun N hN=>?_);simp-dsimp-implicitDefEqProofs (disch:=omega)only[go_sem,prs,ints];refine hN _ ?_;try clear hN N
 refine AW.block ?_;refine AW.loopN (α:=Nat×HP×List (List (List Int))×List (List Int)) (fun x=>sl 102 [(0,.i .i64 pr),(1,rows W),(6,.q nx 0),(7,ints fs),(11,.q bx 0),(12,.i .i64 fs.length),(14,rows x.2.2.2),(15,.i .i64 x.1)]) (fun x=>x.2.1) (fun x m=>(x.1≤fs.length∧m4≤m)∧x.2.1 nx=some [.nl,.nl,.nl]∧BxP 12 lo m bx os P B bc X x.2.2.1 x.2.1∧sqM q x.2.2.2) (fun x=>fs.length-x.1) ((0,H5,trC os.length,W)) ?_ ?_ (fun _ _ h=>h) ?_
 ·exact⟨⟨by simp,by first|omega|(simp only;omega)|(dsimp only;omega)⟩,h50,hb5.keep (fun _ _=>rfl) (by omega) (by first|omega|(simp only;omega)|(dsimp only;omega)),hW⟩
 ·simp(disch:=omega) [wks,wkA,sl,w64,ints,rows]
 skip
 rintro⟨i,G,Y,A⟩ m ⟨⟨hi,hm⟩,hG0,hbx,hA⟩
 simp-dsimp-implicitDefEqProofs (disch:=omega)only[go_sem];dsimp only at hi hm hG0 hbx hA ⊢
 refine AW.seq (fun N8 hN8=>?_);refine AW.sr envOk (fun N hN=>?_);simp-dsimp-implicitDefEqProofs (disch:=omega)only[go_sem,prs,ints];refine hN _ ?_;try clear hN N
 refine AW.cond rfl (fun h3=>?_) (fun h3=>?_)
 ·try simp only[cn]at h3
  have hif:i<fs.length:=by omega
  have hAl:=hA.l
  refine AW.skip ?_;simp only[thn,blk];refine hN8 _ ?_;try clear hN8 N8
  refine AW.seq (fun N9 hN9=>?_);refine AW.block ?_;refine AW.seq (fun N10 hN10=>?_);refine AW.sr envOk (fun N hN=>?_);simp-dsimp-implicitDefEqProofs (disch:=omega)only[go_sem,prs,ints];refine hN _ ?_;try clear hN N
  refine AW.block ?_;refine AW.loopN (α:=Nat×HP×List (List (List Int))) (fun x=>sl 102 [(0,.i .i64 pr),(1,rows W),(6,.q nx 0),(7,ints fs),(11,.q bx 0),(12,.i .i64 fs.length),(14,rows A),(15,.i .i64 i),(16,.i .i64 x.1)]) (fun x=>x.2.1) (fun x m=>(x.1≤q∧m4≤m)∧x.2.1 nx=some [.nl,.nl,.nl]∧BxP 12 lo m bx os P B bc X x.2.2 x.2.1) (fun x=>q-x.1) ((0,G,Y)) ?_ ?_ (fun _ _ h=>h) ?_
  ·exact⟨⟨by simp,by first|omega|(simp only;omega)|(dsimp only;omega)⟩,hG0,hbx.keep (fun _ _=>rfl) (by omega) (by first|omega|(simp only;omega)|(dsimp only;omega))⟩
  ·simp(disch:=omega) [wks,wkA,sl,w64,ints,rows]
  skip
  rintro⟨d,G,Y⟩ m ⟨⟨hd,hm⟩,hG0,hbx⟩
  simp-dsimp-implicitDefEqProofs (disch:=omega)only[go_sem];dsimp only at hd hm hG0 hbx ⊢
  have hlt:=hbx.lt
  refine AW.seq (fun N11 hN11=>?_);refine AW.sr envOk (fun N hN=>?_);simp-dsimp-implicitDefEqProofs (disch:=omega)only[go_sem,prs,ints,rows];refine hN _ ?_;try clear hN N
  refine AW.cond rfl (fun h4=>?_) (fun h4=>?_)
  ·try simp only[cn]at h4
   obtain⟨b,qq,hBe,hbb,hb1,hb2,hb3,hq0,hq1,hq2,hq3,hbq,hput⟩:=hbx.setB (k:=i) (l:=fs.length+d-i-1) (by omega) (by omega)
   have ek:((fs.length:Int)+d-i-1).toNat=fs.length+d-i-1:=by omega
   have hAd:=hA.at d
   have hAr:(A.map ints).getD d .j=ints (A.getD d []):=gd_r (by omega)
   refine AW.skip ?_;simp only[thn,blk];refine hN11 _ ?_;try clear hN11 N11
   refine AW.seq (fun N12 hN12=>?_);refine AW.block ?_;refine AW.drawL envOk (by kernel_rfl) 18 (by kernel_rfl) ?_
   simp-dsimp-implicitDefEqProofs (disch:=omega)only[hr_nil,hr_one,hr_if,List.take_succ_cons,List.take_zero,List.drop_succ_cons,List.drop_zero,List.take_nil,List.drop_nil,go_sem,undef,w64,prs,ints,rows,hbb,hb1,hb2,hq0,hq1,hq2,ek,hAr];refine⟨_,.of (spec_l07Shift_p fs.length (A.getD d []) 0 (by omega) (by omega) (by omega)),?_⟩
   try simp-dsimp-implicitDefEqProofs (disch:=omega)only[go_sem,prs,ints,hbb,hb1,hb2,hq0,hq1,hq2,ek]
   refine hN12 _ ?_;try clear hN12 N12
   refine AW.nameH (fun G5 hG5=>?_);dsimp only at hG5
   refine AW.regionL envOk ?_;simp-dsimp-implicitDefEqProofs (disch:=omega)only[go_sem,prs,ints];refine⟨(d+1,G5,Y.set i ((Y.getD i []).set (fs.length+d-i-1) (shL fs.length (A.getD d []) 0))),?_,fun _ _ h=>h,?_,?_⟩
   ·simp(disch:=omega) [wks,wkA,sl,w64,ints,rows]<;>omega
   ·have hb5:BxP 12 lo (m+4+19+3) bx os P B bc X (Y.set i ((Y.getD i []).set (fs.length+d-i-1) (shL fs.length (A.getD d []) 0))) G5:=by rw[←hG5];exact hput _ _ (by rw[shL_len];omega) (by omega)
    have hG50:G5 nx=some [.nl,.nl,.nl]:=by rw[←hG5,upd_ne _ _ (by omega)];exact hG0
    first|exact⟨⟨by first|omega|(simp only;omega)|(dsimp only;omega),by first|omega|(simp only;omega)|(dsimp only;omega)⟩,hG50,hb5⟩|exact⟨by first|omega|(simp only;omega)|(dsimp only;omega),hG50,hb5⟩
   first|omega|(simp only;omega)
  try simp only[cn]at h4
  have hfi:=getD_all (p:=fun x:Int=>0≤x∧x≤7) (X:=fs) (d:=0) (fun x hx=>by have:=hfs x hx;omega) (by omega) i
  refine AW.exit ?_;simp only[thn,blk,if_true];refine hN10 _ ?_;try clear hN10 N10
  refine AW.sr envOk (fun N hN=>?_);simp-dsimp-implicitDefEqProofs (disch:=omega)only[go_sem,prs,ints];refine hN _ ?_;try clear hN N
  refine AW.sr envOk (fun N hN=>?_);simp-dsimp-implicitDefEqProofs (disch:=omega)only[go_sem,prs,ints];refine hN _ ?_;try clear hN N
  refine AW.block ?_;refine AW.loopN (α:=Nat×HP×List (List Int)) (fun x=>sl 102 [(0,.i .i64 pr),(1,rows W),(6,.q nx 0),(7,ints fs),(11,.q bx 0),(12,.i .i64 fs.length),(14,rows x.2.2),(15,.i .i64 i),(17,rows A),(18,.i .i64 ((x.1:Int)+1))]) (fun x=>x.2.1) (fun x m=>(x.1≤10∧m4≤m)∧x.2.1 nx=some [.nl,.nl,.nl]∧BxP 12 lo m bx os P B bc X Y x.2.1∧sqM q x.2.2) (fun x=>10-x.1) ((0,G,A)) ?_ ?_ (fun _ _ h=>h) ?_
  ·exact⟨⟨by simp,by first|omega|(simp only;omega)|(dsimp only;omega)⟩,hG0,hbx.keep (fun _ _=>rfl) (by omega) (by first|omega|(simp only;omega)|(dsimp only;omega)),hA⟩
  ·simp(disch:=omega) [wks,wkA,sl,w64,ints,rows]
  skip
  rintro⟨e,G,A2⟩ m ⟨⟨he,hm⟩,hG0,hbx,hA2⟩
  simp-dsimp-implicitDefEqProofs (disch:=omega)only[go_sem];dsimp only at he hm hG0 hbx hA2 ⊢
  have hlt:=hbx.lt
  refine AW.seq (fun N13 hN13=>?_);refine AW.sr envOk (fun N hN=>?_);simp-dsimp-implicitDefEqProofs (disch:=omega)only[go_sem,prs,ints,gd_i];refine hN _ ?_;try clear hN N
  refine AW.cond rfl (fun h5=>?_) (fun h5=>?_)
  ·try simp only[cn]at h5
   have hA2l:=hA2.l
   refine AW.skip ?_;simp only[thn,blk];refine hN13 _ ?_;try clear hN13 N13
   refine AW.seq (fun N14 hN14=>?_);refine AW.block ?_;refine AW.regionL envOk ?_;simp-dsimp-implicitDefEqProofs (disch:=omega)only[go_sem,prs,ints,rows];rw[hWl]
   refine(spec_l02Product_z pr hpr q (by omega) A2 A hA2 hA _ _).mono2 ?_
   rintro m7 H7 r7 hm7 ⟨⟨A3,rfl,hA3⟩,hlow7⟩
   have hb7:=hbx.keep (G':=H7) (m':=m7+3) (fun j hj=>hlow7 j (by omega)) (by omega) (by omega)
   have h70:=(hlow7 nx (by omega)).trans hG0
   try simp-dsimp-implicitDefEqProofs (disch:=omega)only[go_sem,prs,ints]
   refine hN14 _ ?_;try clear hN14 N14
   refine AW.regionL envOk ?_;simp-dsimp-implicitDefEqProofs (disch:=omega)only[go_sem,prs,ints];refine⟨(e+1,H7,A3),?_,fun _ _ h=>h,?_,?_⟩
   ·simp(disch:=omega) [wks,wkA,sl,w64,ints,rows]<;>omega
   ·first|exact⟨⟨by first|omega|(simp only;omega)|(dsimp only;omega),by first|omega|(simp only;omega)|(dsimp only;omega)⟩,h70,hb7,hA3⟩|exact⟨by first|omega|(simp only;omega)|(dsimp only;omega),h70,hb7,hA3⟩
   first|omega|(simp only;omega)
  try simp only[cn]at h5
  refine AW.exit ?_;simp only[thn,blk,if_true];refine hN9 _ ?_;try clear hN9 N9
  refine AW.regionL envOk ?_;simp-dsimp-implicitDefEqProofs (disch:=omega)only[go_sem,prs,ints];refine⟨(i+1,G,Y,A2),?_,fun _ _ h=>h,?_,?_⟩
  ·simp(disch:=omega) [wks,wkA,sl,w64,ints,rows]<;>omega
  ·have hb8:=hbx.keep (m':=m+6+3) (fun _ _=>rfl) (by omega) (by omega)
   first|exact⟨⟨by first|omega|(simp only;omega)|(dsimp only;omega),by first|omega|(simp only;omega)|(dsimp only;omega)⟩,hG0,hb8,hA2⟩|exact⟨by first|omega|(simp only;omega)|(dsimp only;omega),hG0,hb8,hA2⟩
  first|omega|(simp only;omega)
 try simp only[cn]at h3
 have hbb:=hbx.cl
 have hlt:=hbx.lt
 refine AW.exit ?_;simp only[thn,blk,if_true];refine hN7 _ ?_;try clear hN7 N7
 refine AW.sr envOk (fun N hN=>?_);simp-dsimp-implicitDefEqProofs (disch:=omega)only[go_sem,prs,ints,hbb,hG0,hbx.ones.1,hbx.ones.2];refine hN _ ?_;try clear hN N
 refine AW.ret ?_;simp-dsimp-implicitDefEqProofs (disch:=omega)only[go_sem];exact⟨_,hbx.fz (fun i hi=>upd_ne _ _ (by omega)) (by omega),os,_,_,rfl,hbx.sh⟩
theorem spec_l07Affine_z (pr n:Int) (W:List (List Int)) (q:Nat) (hpr:1≤pr∧pr≤10) (hq:q≤6) (hW:sqM q W) (hn:1≤n∧n≤64) (nx:Nat) (H:HP):AC Tryz.prog 146 nx H [.i .i64 pr,rows W,.i .i64 n] (zK nx H (preQ 12)):=AC.zz (spec_l07Affine_o pr n W q hpr hq hW hn nx) H
theorem BxP.lo {N lo lo' m bx:Nat} {os:List Int} {P B:AV} {bc:List AV} {X:List (List Int)} {Y:List (List (List Int))} {G:HP} (h:BxP N lo m bx os P B bc X Y G) (hl:lo'≤lo) (hb:bx<lo'):BxP N lo' m bx os P B bc X Y G:=⟨h.cl,h.rg.keep (fun _ _ _=>rfl) hl (Nat.le_refl _),h.sh,hb⟩
theorem mkB {N:St→Prop} {C:Nat→HP→Nat→AV→AV→List AV→Prop} {S:Nat→HP→Nat→AV→AV→St} {G:Prop} (h1:(∀m H i P B bc,C m H i P B bc→N (S m H i P B))→G) (h2:∀m H i P B bc,C m H i P B bc→N (S m H i P B)):G:=h1 h2
theorem vw_own {H:HP} {id n:Nat} {os:List Int} (h:H id=some (os.map (.i .i64))) (hn:os.length=n):Vw H (.h id 0 n) (Go.Proofs.YtghmeeifjeafmaaGreat.ints os):=by
  subst hn
  have:=Vw.fr (n:=os.length) h (by simp)
  exact this
set_option maxRecDepth 20000 in
set_option maxHeartbeats 4000000 in
theorem spec_l07Both_o (os1 os2:List Int) (X1 X2:List (List Int)) (Y1 Y2:List (List (List Int))) (h1:ShB 12 os1 X1 Y1) (h2:ShB 12 os2 X2 Y2):∀nx,AC Tryz.prog 116 nx noH [prs os1 X1 Y1,prs os2 X2 Y2] (fun nx' H' r=>∃r2,Fz H' (blw nx H') r r2∧preQ 24 r2):=by
 have hr1:∀k l,((Y1.getD k []).getD l []).length≤72∧(X1.getD k []).length≤72:=fun k l=>⟨h1.rowC k l,h1.row k⟩
 have hr2:∀k l,((Y2.getD k []).getD l []).length≤72∧(X2.getD k []).length≤72:=fun k l=>⟨h2.rowC k l,h2.row k⟩
 obtain⟨o1,p1,c1,q1,-,-,b1⟩:=h1
 obtain⟨o2,p2,c2,q2,-,-,b2⟩:=h2
 obtain⟨os,hos⟩:∃os,os1++os2=os:=⟨_,rfl⟩
 have hol:os.length=os1.length+os2.length:=by rw[←hos,List.length_append]
 have hob:∀x∈os,-1000≤x∧x≤1000:=fun x hx=>by
  rw[←hos]at hx
  rcases List.mem_append.1 hx with h|h
  ·exact b1 x h
  exact b2 x h
 intro nx
 refine AC.intro' envOk Tryz.func116 rfl (by kernel_rfl) Tryz.ntmps116 Tryz.results116 (fun cX=>?_)
 refine AW.sr envOk (fun N hN=>?_);simp-dsimp-implicitDefEqProofs (disch:=omega)only[go_sem,prs];refine hN _ ?_;try clear hN N
 refine AW.freezeQ 2 nx [ints os1,rows X1,cubes Y1] rfl (by simp(disch:=omega)only[upd_ne,upd_same]) ?_
 refine AW.freezeQ 3 (nx+1) [ints os2,rows X2,cubes Y2] rfl (by simp(disch:=omega)only[upd_ne,upd_same]) ?_
 simp-dsimp-implicitDefEqProofs (disch:=omega)only[go_sem];refine AW.seq (fun N hN=>?_);refine AW.drawL envOk (by kernel_rfl) 8 (by kernel_rfl) ?_
 simp-dsimp-implicitDefEqProofs (disch:=omega)only[hr_nil,hr_one,hr_if,List.take_succ_cons,List.take_zero,List.drop_succ_cons,List.drop_zero,List.take_nil,List.drop_nil,go_sem,undef,prs,w64,ints];refine hN _ ?_;try clear hN N
 refine AW.seq (fun N hN=>?_);apply mkB (N:=N)
 ·intro key
  refine AW.drawT envOk (by kernel_rfl) [true,true,false,true,true,false,false,false,false] (.br 2 (.br 5 (.br 6 (.br 7 (.br 8 .nil .nil) .nil) (.br 7 (.br 6 (.br 8 .nil .nil) .nil) .nil)) (.br 7 (.br 5 (.br 6 (.br 8 .nil .nil) .nil) .nil) .nil)) (.br 7 (.br 2 (.br 5 (.br 6 (.br 8 .nil .nil) .nil) .nil) .nil) .nil)) (by kernel_rfl) ?_
  simp-dsimp-implicitDefEqProofs (disch:=omega)only[go_sem,prs];refine⟨?_,?_⟩
  ·skip
   refine(spec_l01Own_ok os1 (by omega) _ _).mono2 ?_
   rintro m2 H2 r2 hm2 ⟨id2,rfl,hi1,hi2,rfl⟩
   try simp-dsimp-implicitDefEqProofs (disch:=omega)only[go_sem,prs,ints]
   refine⟨⟨?_,?_⟩,?_⟩
   all_goals
    refine(spec_l07Trivial_rg os (by omega) _ (.cons (vw_own (os:=os) (by simp(disch:=omega)only[upd_ne,upd_same,own_cells,hos]) hol) .nil)).mono2 ?_
    intro m4 H4 r4 hm4 hrg
    obtain⟨P,B,bc,rfl,hP1,hB1,hlow4,hbx⟩:=BxP.start (N:=24) (bx:=nx+3+8+7) hrg (by omega) (by omega) hob (by omega)
    have h40:H4 (nx+2)=some [.nl,.nl,.nl]:=by rw[hlow4 _ (by omega)];simp(disch:=omega)only[upd_ne,upd_same]
    first|(have hc:H4 (nx+3+8+7)=some [.nl,.nl,.nl]:=by rw[hlow4 _ (by omega)];simp(disch:=omega)only[upd_ne,upd_same])|have hc:True:=trivial
    try simp-dsimp-implicitDefEqProofs (disch:=omega)only[go_sem,hP1,hB1,ints,Bool.and_true,upd_upd,hc]
    exact key m4 H4 id2 P B bc (And.intro (show nx+3+8+9≤m4 by omega) (And.intro h40 (And.intro (And.intro hP1 hB1) (hbx.lo (lo':=nx+3+8+9) (by omega) (by omega)))))
  skip
  refine(spec_l01Own_ok os1 (by omega) _ _).mono2 ?_
  rintro m2 H2 r2 hm2 ⟨id2,rfl,hi1,hi2,rfl⟩
  try simp-dsimp-implicitDefEqProofs (disch:=omega)only[go_sem,prs,ints]
  refine(spec_l07Trivial_rg os (by omega) _ (.cons (vw_own (os:=os) (by simp(disch:=omega)only[upd_ne,upd_same,own_cells,hos]) hol) .nil)).mono2 ?_
  intro m4 H4 r4 hm4 hrg
  obtain⟨P,B,bc,rfl,hP1,hB1,hlow4,hbx⟩:=BxP.start (N:=24) (bx:=nx+3+8+7) hrg (by omega) (by omega) hob (by omega)
  have h40:H4 (nx+2)=some [.nl,.nl,.nl]:=by rw[hlow4 _ (by omega)];simp(disch:=omega)only[upd_ne,upd_same]
  first|(have hc:H4 (nx+3+8+7)=some [.nl,.nl,.nl]:=by rw[hlow4 _ (by omega)];simp(disch:=omega)only[upd_ne,upd_same])|have hc:True:=trivial
  try simp-dsimp-implicitDefEqProofs (disch:=omega)only[go_sem,hP1,hB1,ints,Bool.and_true,upd_upd,hc]
  exact key m4 H4 id2 P B bc (And.intro (show nx+3+8+9≤m4 by omega) (And.intro h40 (And.intro (And.intro hP1 hB1) (hbx.lo (lo':=nx+3+8+9) (by omega) (by omega)))))
 intro m4 H4 id2 P B bc hC
 obtain⟨hm4,h40,⟨hP1,hB1⟩,hbx⟩:=hC
 refine hN _ ?_;try clear hN N
 refine AW.seq (fun N1 hN1=>?_);refine AW.nameH (fun G1 hG1=>?_);dsimp only at hG1
 replace hbx:BxP 24 (nx+3+8+9) m4 (nx+3+8+7) os P B bc (trP os.length) (trC os.length) G1:=by rw[←hG1];exact hbx
 have h10:G1 (nx+2)=some [.nl,.nl,.nl]:=by rw[←hG1,upd_ne _ _ (by omega)];exact h40
 obtain⟨bx,hbxe⟩:∃bx,nx+3+8+7=bx:=⟨_,rfl⟩
 obtain⟨lo,hlo⟩:∃lo,nx+3+8+9=lo:=⟨_,rfl⟩
 rw[hbxe,hlo]at hbx
 rw[hbxe]
 simp-dsimp-implicitDefEqProofs (disch:=omega)only[go_sem];refine AW.sr envOk (fun N hN=>?_);simp-dsimp-implicitDefEqProofs (disch:=omega)only[go_sem,prs];refine hN _ ?_;try clear hN N
 refine AW.block ?_;refine AW.loopN (α:=Nat×HP×List (List Int)×List (List (List Int))) (fun x=>sl 116 [(2,.p 0 [ints os1,rows X1,cubes Y1]),(3,.p 0 [ints os2,rows X2,cubes Y2]),(4,.q (nx+2) 0),(5,.i .i64 os1.length),(6,.i .i64 os2.length),(7,.q bx 0),(8,.i .i64 x.1)]) (fun x=>x.2.1) (fun x m=>(x.1≤os1.length∧m4≤m)∧x.2.1 (nx+2)=some [.nl,.nl,.nl]∧BxP 24 lo m bx os P B bc x.2.2.1 x.2.2.2 x.2.1) (fun x=>os1.length-x.1) ((0,G1,trP os.length,trC os.length)) ?_ ?_ (fun _ _ h=>h) ?_
 ·exact⟨⟨by simp,by first|omega|(simp only;omega)|(dsimp only;omega)⟩,h10,hbx.keep (fun _ _=>rfl) (by omega) (by first|omega|(simp only;omega)|(dsimp only;omega))⟩
 ·simp(disch:=omega) [wks,wkA,sl,w64,ints,rows,cubes]
 skip
 rintro⟨i,G,X,Y⟩ m ⟨⟨hi,hm⟩,hG0,hbx⟩
 simp-dsimp-implicitDefEqProofs (disch:=omega)only[go_sem];dsimp only at hi hm hG0 hbx ⊢
 have hlt:=hbx.lt
 refine AW.seq (fun N2 hN2=>?_);refine AW.sr envOk (fun N hN=>?_);simp-dsimp-implicitDefEqProofs (disch:=omega)only[go_sem,prs];refine hN _ ?_;try clear hN N
 refine AW.cond rfl (fun h1=>?_) (fun h1=>?_)
 ·try simp only[cn]at h1
  obtain⟨p,hPe,hbp,hp1,hp2,hp3,hput⟩:=hbx.setP (k:=i) (by omega)
  have hX:=(hr1 i 0).2
  have hgr:(X1.map ints).getD i .j=ints (X1.getD i []):=gd_r (by omega)
  refine AW.skip ?_;simp only[thn,blk];refine hN2 _ ?_;try clear hN2 N2
  refine AW.seq (fun N3 hN3=>?_);refine AW.block ?_;refine AW.seq (fun N hN=>?_);refine AW.drawL envOk (by kernel_rfl) 11 (by kernel_rfl) ?_
  simp-dsimp-implicitDefEqProofs (disch:=omega)only[hr_nil,hr_one,hr_if,List.take_succ_cons,List.take_zero,List.drop_succ_cons,List.drop_zero,List.take_nil,List.drop_nil,go_sem,undef,prs,w64,rows,hbp,hp1,hp2,hgr];refine⟨_,.of (spec_l07Shift_p 0 (X1.getD i []) os2.length (by omega) (by omega) (by omega)),?_⟩
  try simp-dsimp-implicitDefEqProofs (disch:=omega)only[go_sem,prs,ints,hbp,hp1,hp2]
  refine hN _ ?_;try clear hN N
  refine AW.sr envOk (fun N hN=>?_);simp-dsimp-implicitDefEqProofs (disch:=omega)only[go_sem,prs];refine hN _ ?_;try clear hN N
  refine AW.block ?_;refine AW.nameH (fun G3 hG3=>?_);dsimp only at hG3
  have hb3:BxP 24 lo (m+3+12) bx os P B bc (X.set i (shL 0 (X1.getD i []) os2.length)) Y G3:=by rw[←hG3];exact hput _ _ (by rw[shL_len];omega) (by omega)
  have hG30:G3 (nx+2)=some [.nl,.nl,.nl]:=by rw[←hG3,upd_ne _ _ (by omega)];exact hG0
  obtain⟨X3,hX3⟩:∃X3,X.set i (shL 0 (X1.getD i []) os2.length)=X3:=⟨_,rfl⟩
  rw[hX3]at hb3
  refine AW.loopN (α:=Nat×HP×List (List (List Int))) (fun x=>sl 116 [(2,.p 0 [ints os1,rows X1,cubes Y1]),(3,.p 0 [ints os2,rows X2,cubes Y2]),(4,.q (nx+2) 0),(5,.i .i64 os1.length),(6,.i .i64 os2.length),(7,.q bx 0),(8,.i .i64 i),(9,.i .i64 x.1)]) (fun x=>x.2.1) (fun x m=>(x.1≤os1.length-1-i∧m4≤m)∧x.2.1 (nx+2)=some [.nl,.nl,.nl]∧BxP 24 lo m bx os P B bc X3 x.2.2 x.2.1) (fun x=>os1.length-1-i-x.1) ((0,G3,Y)) ?_ ?_ (fun _ _ h=>h) ?_
  ·exact⟨⟨by simp,by first|omega|(simp only;omega)|(dsimp only;omega)⟩,hG30,hb3.keep (fun _ _=>rfl) (by omega) (by first|omega|(simp only;omega)|(dsimp only;omega))⟩
  ·simp(disch:=omega) [wks,wkA,sl,w64,ints,rows,cubes]
  skip
  rintro⟨j,G,Y⟩ m ⟨⟨hj,hm⟩,hG0,hbx⟩
  simp-dsimp-implicitDefEqProofs (disch:=omega)only[go_sem];dsimp only at hj hm hG0 hbx ⊢
  have hlt:=hbx.lt
  have hgc:(Y1.map rows).getD i .j= .v (os1.length-1-i) ((Y1.getD i []).map ints):=by rw[gd_c (by omega),rows,q1 i (by omega)]
  refine AW.seq (fun N4 hN4=>?_);refine AW.sr envOk (fun N hN=>?_);simp-dsimp-implicitDefEqProofs (disch:=omega)only[go_sem,prs,cubes,hgc];refine hN _ ?_;try clear hN N
  refine AW.cond rfl (fun h2=>?_) (fun h2=>?_)
  ·try simp only[cn]at h2
   obtain⟨b,qq,hBe,hbb,hb1,hb2,hb3,hq0,hq1,hq2,hq3,hbq,hput⟩:=hbx.setB (k:=i) (l:=j) (by omega) (by omega)
   have hgr:((Y1.getD i []).map ints).getD j .j=ints ((Y1.getD i []).getD j []):=gd_r (by rw[q1 i (by omega)];omega)
   have hXl:=(hr1 i j).1
   have hjl:=q1 i (by omega)
   refine AW.skip ?_;simp only[thn,blk];refine hN4 _ ?_;try clear hN4 N4
   refine AW.seq (fun N5 hN5=>?_);refine AW.block ?_;refine AW.drawL envOk (by kernel_rfl) 17 (by kernel_rfl) ?_
   simp-dsimp-implicitDefEqProofs (disch:=omega)only[hr_nil,hr_one,hr_if,List.take_succ_cons,List.take_zero,List.drop_succ_cons,List.drop_zero,List.take_nil,List.drop_nil,go_sem,undef,prs,w64,cubes,hgc,hgr,hbb,hb1,hb2,hq0,hq1,hq2];refine⟨_,.of (spec_l07Shift_p 0 ((Y1.getD i []).getD j []) os2.length (by omega) (by omega) (by omega)),?_⟩
   try simp-dsimp-implicitDefEqProofs (disch:=omega)only[go_sem,prs,ints,hbb,hb1,hb2,hq0,hq1,hq2]
   refine hN5 _ ?_;try clear hN5 N5
   refine AW.nameH (fun G5 hG5=>?_);dsimp only at hG5
   refine AW.regionL envOk ?_;simp-dsimp-implicitDefEqProofs (disch:=omega)only[go_sem,prs];refine⟨(j+1,G5,Y.set i ((Y.getD i []).set j (shL 0 ((Y1.getD i []).getD j []) os2.length))),?_,fun _ _ h=>h,?_,?_⟩
   ·simp(disch:=omega) [wks,wkA,sl,w64,ints,rows,cubes]
   ·have hb5:BxP 24 lo (m+8+18+3) bx os P B bc X3 (Y.set i ((Y.getD i []).set j (shL 0 ((Y1.getD i []).getD j []) os2.length))) G5:=by rw[←hG5];exact hput _ _ (by rw[shL_len];omega) (by omega)
    have hG50:G5 (nx+2)=some [.nl,.nl,.nl]:=by rw[←hG5,upd_ne _ _ (by omega)];exact hG0
    first|exact⟨⟨by first|omega|(simp only;omega)|(dsimp only;omega),by first|omega|(simp only;omega)|(dsimp only;omega)⟩,hG50,hb5⟩|exact⟨by first|omega|(simp only;omega)|(dsimp only;omega),hG50,hb5⟩
   first|omega|(simp only;omega)
  try simp only[cn]at h2
  refine AW.exit ?_;simp only[thn,blk,if_true];refine hN3 _ ?_;try clear hN3 N3
  refine AW.regionL envOk ?_;simp-dsimp-implicitDefEqProofs (disch:=omega)only[go_sem,prs];refine⟨(i+1,G,X3,Y),?_,fun _ _ h=>h,?_,?_⟩
  ·simp(disch:=omega) [wks,wkA,sl,w64,ints,rows,cubes]
  ·have hb8:=hbx.keep (m':=m+8+3) (fun _ _=>rfl) (by omega) (by omega)
   first|exact⟨⟨by first|omega|(simp only;omega)|(dsimp only;omega),by first|omega|(simp only;omega)|(dsimp only;omega)⟩,hG0,hb8⟩|exact⟨by first|omega|(simp only;omega)|(dsimp only;omega),hG0,hb8⟩
  first|omega|(simp only;omega)
 try simp only[cn]at h1
 refine AW.exit ?_;simp only[thn,blk,if_true];refine hN1 _ ?_;try clear hN1 N1
 refine AW.seq (fun N6 hN6=>?_);refine AW.sr envOk (fun N hN=>?_);simp-dsimp-implicitDefEqProofs (disch:=omega)only[go_sem,prs];refine hN _ ?_;try clear hN N
 refine AW.block ?_;refine AW.loopN (α:=Nat×HP×List (List Int)×List (List (List Int))) (fun x=>sl 116 [(3,.p 0 [ints os2,rows X2,cubes Y2]),(4,.q (nx+2) 0),(5,.i .i64 os1.length),(6,.i .i64 os2.length),(7,.q bx 0),(10,.i .i64 x.1)]) (fun x=>x.2.1) (fun x m=>(x.1≤os2.length∧m4≤m)∧x.2.1 (nx+2)=some [.nl,.nl,.nl]∧BxP 24 lo m bx os P B bc x.2.2.1 x.2.2.2 x.2.1) (fun x=>os2.length-x.1) ((0,G,X,Y)) ?_ ?_ (fun _ _ h=>h) ?_
 ·exact⟨⟨by simp,by first|omega|(simp only;omega)|(dsimp only;omega)⟩,hG0,hbx.keep (fun _ _=>rfl) (by omega) (by first|omega|(simp only;omega)|(dsimp only;omega))⟩
 ·simp(disch:=omega) [wks,wkA,sl,w64,ints,rows,cubes]
 skip
 rintro⟨i,G,X,Y⟩ m ⟨⟨hi,hm⟩,hG0,hbx⟩
 simp-dsimp-implicitDefEqProofs (disch:=omega)only[go_sem];dsimp only at hi hm hG0 hbx ⊢
 have hlt:=hbx.lt
 refine AW.seq (fun N7 hN7=>?_);refine AW.sr envOk (fun N hN=>?_);simp-dsimp-implicitDefEqProofs (disch:=omega)only[go_sem,prs];refine hN _ ?_;try clear hN N
 refine AW.cond rfl (fun h3=>?_) (fun h3=>?_)
 ·try simp only[cn]at h3
  obtain⟨p,hPe,hbp,hp1,hp2,hp3,hput⟩:=hbx.setP (k:=os1.length+i) (by omega)
  have hX:=(hr2 i 0).2
  have ek:((os1.length:Int)+i).toNat=os1.length+i:=by omega
  have hgr:(X2.map ints).getD i .j=ints (X2.getD i []):=gd_r (by omega)
  refine AW.skip ?_;simp only[thn,blk];refine hN7 _ ?_;try clear hN7 N7
  refine AW.seq (fun N8 hN8=>?_);refine AW.block ?_;refine AW.seq (fun N hN=>?_);refine AW.drawL envOk (by kernel_rfl) 13 (by kernel_rfl) ?_
  simp-dsimp-implicitDefEqProofs (disch:=omega)only[hr_nil,hr_one,hr_if,List.take_succ_cons,List.take_zero,List.drop_succ_cons,List.drop_zero,List.take_nil,List.drop_nil,go_sem,undef,prs,w64,rows,hbp,hp1,hp2,hgr,ek];refine⟨_,.of (spec_l07Shift_p os1.length (X2.getD i []) 0 (by omega) (by omega) (by omega)),?_⟩
  try simp-dsimp-implicitDefEqProofs (disch:=omega)only[go_sem,prs,ints,hbp,hp1,hp2,ek]
  refine hN _ ?_;try clear hN N
  refine AW.sr envOk (fun N hN=>?_);simp-dsimp-implicitDefEqProofs (disch:=omega)only[go_sem,prs];refine hN _ ?_;try clear hN N
  refine AW.block ?_;refine AW.nameH (fun G3 hG3=>?_);dsimp only at hG3
  have hb3:BxP 24 lo (m+3+14) bx os P B bc (X.set (os1.length+i) (shL os1.length (X2.getD i []) 0)) Y G3:=by rw[←hG3];exact hput _ _ (by rw[shL_len];omega) (by omega)
  have hG30:G3 (nx+2)=some [.nl,.nl,.nl]:=by rw[←hG3,upd_ne _ _ (by omega)];exact hG0
  obtain⟨X3,hX3⟩:∃X3,X.set (os1.length+i) (shL os1.length (X2.getD i []) 0)=X3:=⟨_,rfl⟩
  rw[hX3]at hb3
  refine AW.loopN (α:=Nat×HP×List (List (List Int))) (fun x=>sl 116 [(3,.p 0 [ints os2,rows X2,cubes Y2]),(4,.q (nx+2) 0),(5,.i .i64 os1.length),(6,.i .i64 os2.length),(7,.q bx 0),(10,.i .i64 i),(11,.i .i64 x.1)]) (fun x=>x.2.1) (fun x m=>(x.1≤os2.length-1-i∧m4≤m)∧x.2.1 (nx+2)=some [.nl,.nl,.nl]∧BxP 24 lo m bx os P B bc X3 x.2.2 x.2.1) (fun x=>os2.length-1-i-x.1) ((0,G3,Y)) ?_ ?_ (fun _ _ h=>h) ?_
  ·exact⟨⟨by simp,by first|omega|(simp only;omega)|(dsimp only;omega)⟩,hG30,hb3.keep (fun _ _=>rfl) (by omega) (by first|omega|(simp only;omega)|(dsimp only;omega))⟩
  ·simp(disch:=omega) [wks,wkA,sl,w64,ints,rows,cubes]
  skip
  rintro⟨j,G,Y⟩ m ⟨⟨hj,hm⟩,hG0,hbx⟩
  simp-dsimp-implicitDefEqProofs (disch:=omega)only[go_sem];dsimp only at hj hm hG0 hbx ⊢
  have hlt:=hbx.lt
  have hgc:(Y2.map rows).getD i .j= .v (os2.length-1-i) ((Y2.getD i []).map ints):=by rw[gd_c (by omega),rows,q2 i (by omega)]
  refine AW.seq (fun N9 hN9=>?_);refine AW.sr envOk (fun N hN=>?_);simp-dsimp-implicitDefEqProofs (disch:=omega)only[go_sem,prs,cubes,hgc];refine hN _ ?_;try clear hN N
  refine AW.cond rfl (fun h4=>?_) (fun h4=>?_)
  ·try simp only[cn]at h4
   obtain⟨b,qq,hBe,hbb,hb1,hb2,hb3,hq0,hq1,hq2,hq3,hbq,hput⟩:=hbx.setB (k:=os1.length+i) (l:=j) (by omega) (by omega)
   have hgr:((Y2.getD i []).map ints).getD j .j=ints ((Y2.getD i []).getD j []):=gd_r (by rw[q2 i (by omega)];omega)
   have ek:((os1.length:Int)+i).toNat=os1.length+i:=by omega
   have hXl:=(hr2 i j).1
   have hjl:=q2 i (by omega)
   refine AW.skip ?_;simp only[thn,blk];refine hN9 _ ?_;try clear hN9 N9
   refine AW.seq (fun N10 hN10=>?_);refine AW.block ?_;refine AW.drawL envOk (by kernel_rfl) 19 (by kernel_rfl) ?_
   simp-dsimp-implicitDefEqProofs (disch:=omega)only[hr_nil,hr_one,hr_if,List.take_succ_cons,List.take_zero,List.drop_succ_cons,List.drop_zero,List.take_nil,List.drop_nil,go_sem,undef,prs,w64,cubes,hgc,hgr,hbb,hb1,hb2,hq0,hq1,hq2,ek];refine⟨_,.of (spec_l07Shift_p os1.length ((Y2.getD i []).getD j []) 0 (by omega) (by omega) (by omega)),?_⟩
   try simp-dsimp-implicitDefEqProofs (disch:=omega)only[go_sem,prs,ints,hbb,hb1,hb2,hq0,hq1,hq2,ek]
   refine hN10 _ ?_;try clear hN10 N10
   refine AW.nameH (fun G5 hG5=>?_);dsimp only at hG5
   refine AW.regionL envOk ?_;simp-dsimp-implicitDefEqProofs (disch:=omega)only[go_sem,prs];refine⟨(j+1,G5,Y.set (os1.length+i) ((Y.getD (os1.length+i) []).set j (shL os1.length ((Y2.getD i []).getD j []) 0))),?_,fun _ _ h=>h,?_,?_⟩
   ·simp(disch:=omega) [wks,wkA,sl,w64,ints,rows,cubes]
   ·have hb5:BxP 24 lo (m+8+20+3) bx os P B bc X3 (Y.set (os1.length+i) ((Y.getD (os1.length+i) []).set j (shL os1.length ((Y2.getD i []).getD j []) 0))) G5:=by rw[←hG5];exact hput _ _ (by rw[shL_len];omega) (by omega)
    have hG50:G5 (nx+2)=some [.nl,.nl,.nl]:=by rw[←hG5,upd_ne _ _ (by omega)];exact hG0
    first|exact⟨⟨by first|omega|(simp only;omega)|(dsimp only;omega),by first|omega|(simp only;omega)|(dsimp only;omega)⟩,hG50,hb5⟩|exact⟨by first|omega|(simp only;omega)|(dsimp only;omega),hG50,hb5⟩
   first|omega|(simp only;omega)
  try simp only[cn]at h4
  refine AW.exit ?_;simp only[thn,blk,if_true];refine hN8 _ ?_;try clear hN8 N8
  refine AW.regionL envOk ?_;simp-dsimp-implicitDefEqProofs (disch:=omega)only[go_sem,prs];refine⟨(i+1,G,X3,Y),?_,fun _ _ h=>h,?_,?_⟩
  ·simp(disch:=omega) [wks,wkA,sl,w64,ints,rows,cubes]
  ·have hb8:=hbx.keep (m':=m+8+3) (fun _ _=>rfl) (by omega) (by omega)
   first|exact⟨⟨by first|omega|(simp only;omega)|(dsimp only;omega),by first|omega|(simp only;omega)|(dsimp only;omega)⟩,hG0,hb8⟩|exact⟨by first|omega|(simp only;omega)|(dsimp only;omega),hG0,hb8⟩
  first|omega|(simp only;omega)
 try simp only[cn]at h3
 have hbb:=hbx.cl
 have hlt:=hbx.lt
 refine AW.exit ?_;simp only[thn,blk,if_true];refine hN6 _ ?_;try clear hN6 N6
 refine AW.sr envOk (fun N hN=>?_);simp-dsimp-implicitDefEqProofs (disch:=omega)only[go_sem,prs,hbb,hG0,hbx.ones.1,hbx.ones.2];refine hN _ ?_;try clear hN N
 refine AW.ret ?_;simp-dsimp-implicitDefEqProofs (disch:=omega)only[go_sem];exact⟨_,hbx.fz (fun i hi=>upd_ne _ _ (by omega)) (by omega),os,_,_,rfl,hbx.sh⟩
theorem spec_l07Both_z (os1 os2:List Int) (X1 X2:List (List Int)) (Y1 Y2:List (List (List Int))) (h1:ShB 12 os1 X1 Y1) (h2:ShB 12 os2 X2 Y2) (nx:Nat) (H:HP):AC Tryz.prog 116 nx H [prs os1 X1 Y1,prs os2 X2 Y2] (zK nx H (preQ 24)):=AC.zz (spec_l07Both_o os1 os2 X1 X2 Y1 Y2 h1 h2 nx) H
end Go.Proofs.YtghmeeifjeafmaaGreat
