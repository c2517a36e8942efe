import Derived.Test.YtghmeeifjeafmaaGreatZ50
set_option linter.unusedVariables false
set_option linter.unusedSimpArgs false
namespace Go.Proofs.YtghmeeifjeafmaaGreat
open Nat (reduceAdd reduceSub reduceGT reduceEqDiff reduceMul)
theorem Fz.gv {H H2:HP} {os:List Int} {X:List (List Int)} {Y:List (List (List Int))}:Fz H H2 (.g [ints os,rows X,cubes Y]) (prs os X Y):= .refl _
theorem spec_l07Draw_o {bs:List Int} {sid:Nat} {H:HP} (hg:srcOk bs sid H) (lim:Int) (nx:Nat) (hsn:sid<nx):AC Tryz.prog 38 nx H [.q sid 0,.i .i64 lim] (fun nx' H' r=>∃r2,Fz H' (blw nx H') r r2∧drwQ r2∧srcOk bs sid H'∧∀i,i<nx→i≠sid→H' i=H i):=by
 refine AC.introx envOk Tryz.func38 rfl (by kernel_rfl) Tryz.ntmps38 Tryz.results38 (fun hfr cX=>?_)
 refine AW.sr envOk (fun N hN=>?_);simp-dsimp-implicitDefEqProofs (disch:=omega)only[go_sem,prs];refine hN _ ?_;try clear hN N
 refine AW.sr envOk (fun N hN=>?_);simp-dsimp-implicitDefEqProofs (disch:=omega)only[go_sem,prs];refine(spec_l07Group_s (hg.keep (upd_ne _ _ (by omega))) lim _ (by omega)).mono2 ?_
 rintro m1 H1 r1 hm1 ⟨⟨os,X,Y,rfl,hp⟩,hg1,hk1⟩
 have hd:=hp.drw
 have h01:H1 nx=some [.nl,.nl,.nl]:=(hk1 nx (by omega) (by omega)).trans (upd_same _ _ _)
 have hl1:∀i,i<nx→i≠sid→H1 i=H i:=fun i hi hne=>(hk1 i (by omega) hne).trans (upd_ne _ _ (by omega))
 try simp-dsimp-implicitDefEqProofs (disch:=omega)only[go_sem,prs]
 refine hN _ ?_;try clear hN N
 refine AW.seq (fun N1 hN1=>?_);refine AW.freezeQ 5 (nx+1+3) [ints os,rows X,cubes Y] rfl (upd_same _ _ _) ?_
 refine AW.nameH (fun G1 hG1=>?_);dsimp only at hG1
 have hk:∀i,i<nx+1+3→G1 i=H1 i:=fun i hi=>by rw[←hG1];simp(disch:=omega)only[upd_ne]
 have hgs:srcOk bs sid G1:=hg1.keep (hk _ (by omega))
 replace h01:=(hk nx (by omega)).trans h01
 have hl2:∀i,i<nx→i≠sid→G1 i=H i:=fun i hi hne=>(hk i (by omega)).trans (hl1 i hi hne)
 clear hG1
 simp-dsimp-implicitDefEqProofs (disch:=omega)only[go_sem];refine AW.sr envOk (fun N hN=>?_);simp-dsimp-implicitDefEqProofs (disch:=omega)only[go_sem,prs];refine(spec_l01Next_s hgs 24 (by omega) _).mono2 ?_
 rintro m2 H2 r2 hm2 ⟨⟨x2,rfl,hx2⟩,hg2,hk2⟩
 have h02:=(hk2 nx (by omega) (by omega)).trans h01
 have hl3:∀i,i<nx→i≠sid→H2 i=H i:=fun i hi hne=>(hk2 i (by omega) hne).trans (hl2 i hi hne)
 try simp-dsimp-implicitDefEqProofs (disch:=omega)only[go_sem,prs]
 refine hN _ ?_;try clear hN N
 refine AW.block ?_;refine AW.sr envOk (fun N hN=>?_);simp-dsimp-implicitDefEqProofs (disch:=omega)only[go_sem,prs];refine hN _ ?_;try clear hN N
 refine AW.cond rfl (fun h1=>?_) (fun h1=>?_)
 ·try simp only[cn]at h1
  refine AW.sr envOk (fun N hN=>?_);simp-dsimp-implicitDefEqProofs (disch:=omega)only[go_sem,prs];refine(spec_l07Bend_s hg2 os X Y hp _ (by omega)).mono2 ?_
  rintro m3 H3 r3 hm3 ⟨⟨os3,X3,Y3,rfl,hd3⟩,hg3,hk3⟩
  have h03:=(hk3 nx (by omega) (by omega)).trans h02
  have hl4:∀i,i<nx→i≠sid→H3 i=H i:=fun i hi hne=>(hk3 i (by omega) hne).trans (hl3 i hi hne)
  try simp-dsimp-implicitDefEqProofs (disch:=omega)only[go_sem,prs,h03]
  refine hN _ ?_;try clear hN N
  refine AW.ret ?_;simp-dsimp-implicitDefEqProofs (disch:=omega)only[go_sem];first
  |exact⟨_,fun _ _ h=>h,_,.gv,⟨os3,X3,Y3,rfl,hd3⟩,hg3.keep (upd_ne _ _ (by omega)),fun i hi hne=>(upd_ne _ _ (by omega)).trans (hl4 i hi hne)⟩
  |exact⟨_,fun _ _ h=>h,_,.gv,⟨os,X,Y,rfl,hd⟩,hg2.keep (upd_ne _ _ (by omega)),fun i hi hne=>(upd_ne _ _ (by omega)).trans (hl3 i hi hne)⟩
 try simp only[cn]at h1
 refine AW.seq (fun N2 hN2=>?_);refine AW.sr envOk (fun N hN=>?_);simp-dsimp-implicitDefEqProofs (disch:=omega)only[go_sem,prs];refine hN _ ?_;try clear hN N
 refine AW.cond rfl (fun h2=>?_) (fun h2=>?_)
 ·try simp only[cn]at h2
  refine AW.skip ?_;simp only[thn,blk];refine hN2 _ ?_;try clear hN2 N2
  refine AW.cond rfl (fun h3=>?_) (fun h3=>?_)
  ·try simp only[cn]at h3
   refine AW.sr envOk (fun N hN=>?_);simp-dsimp-implicitDefEqProofs (disch:=omega)only[go_sem,prs];refine(spec_l07Turn_s hg2 os X Y hp _ (by omega)).mono2 ?_
   rintro m3 H3 r3 hm3 ⟨⟨os3,X3,Y3,rfl,hd3⟩,hg3,hk3⟩
   have h03:=(hk3 nx (by omega) (by omega)).trans h02
   have hl4:∀i,i<nx→i≠sid→H3 i=H i:=fun i hi hne=>(hk3 i (by omega) hne).trans (hl3 i hi hne)
   try simp-dsimp-implicitDefEqProofs (disch:=omega)only[go_sem,prs,h03]
   refine hN _ ?_;try clear hN N
   refine AW.ret ?_;simp-dsimp-implicitDefEqProofs (disch:=omega)only[go_sem];first
   |exact⟨_,fun _ _ h=>h,_,.gv,⟨os3,X3,Y3,rfl,hd3⟩,hg3.keep (upd_ne _ _ (by omega)),fun i hi hne=>(upd_ne _ _ (by omega)).trans (hl4 i hi hne)⟩
   |exact⟨_,fun _ _ h=>h,_,.gv,⟨os,X,Y,rfl,hd⟩,hg2.keep (upd_ne _ _ (by omega)),fun i hi hne=>(upd_ne _ _ (by omega)).trans (hl3 i hi hne)⟩
  try simp only[cn]at h3
  exfalso;first|omega|exact h3 h2|simp_all
 try simp only[cn]at h2
 refine AW.regionL envOk ?_;simp-dsimp-implicitDefEqProofs (disch:=omega)only[go_sem,prs];refine hN2 _ ?_;try clear hN2 N2
 refine AW.cond rfl (fun h4=>?_) (fun h4=>?_)
 ·try simp only[cn]at h4
  refine AW.sr envOk (fun N hN=>?_);simp-dsimp-implicitDefEqProofs (disch:=omega)only[go_sem,prs];refine(spec_l07Turn_s hg2 os X Y hp _ (by omega)).mono2 ?_
  rintro m3 H3 r3 hm3 ⟨⟨os3,X3,Y3,rfl,hd3⟩,hg3,hk3⟩
  have h03:=(hk3 nx (by omega) (by omega)).trans h02
  have hl4:∀i,i<nx→i≠sid→H3 i=H i:=fun i hi hne=>(hk3 i (by omega) hne).trans (hl3 i hi hne)
  try simp-dsimp-implicitDefEqProofs (disch:=omega)only[go_sem,prs,h03]
  refine hN _ ?_;try clear hN N
  refine AW.ret ?_;simp-dsimp-implicitDefEqProofs (disch:=omega)only[go_sem];first
  |exact⟨_,fun _ _ h=>h,_,.gv,⟨os3,X3,Y3,rfl,hd3⟩,hg3.keep (upd_ne _ _ (by omega)),fun i hi hne=>(upd_ne _ _ (by omega)).trans (hl4 i hi hne)⟩
  |exact⟨_,fun _ _ h=>h,_,.gv,⟨os,X,Y,rfl,hd⟩,hg2.keep (upd_ne _ _ (by omega)),fun i hi hne=>(upd_ne _ _ (by omega)).trans (hl3 i hi hne)⟩
 try simp only[cn]at h4
 refine AW.skip ?_;simp only[thn,blk];refine hN1 _ ?_;try clear hN1 N1
 refine AW.sr envOk (fun N hN=>?_);simp-dsimp-implicitDefEqProofs (disch:=omega)only[go_sem,prs,h02];refine hN _ ?_;try clear hN N
 refine AW.ret ?_;simp-dsimp-implicitDefEqProofs (disch:=omega)only[go_sem];first
 |exact⟨_,fun _ _ h=>h,_,.gv,⟨os3,X3,Y3,rfl,hd3⟩,hg3.keep (upd_ne _ _ (by omega)),fun i hi hne=>(upd_ne _ _ (by omega)).trans (hl4 i hi hne)⟩
 |exact⟨_,fun _ _ h=>h,_,.gv,⟨os,X,Y,rfl,hd⟩,hg2.keep (upd_ne _ _ (by omega)),fun i hi hne=>(upd_ne _ _ (by omega)).trans (hl3 i hi hne)⟩
theorem spec_l07Draw_s {bs:List Int} {sid:Nat} {H:HP} (hg:srcOk bs sid H) (lim:Int) (nx:Nat) (hsn:sid<nx):AC Tryz.prog 38 nx H [.q sid 0,.i .i64 lim] (sK bs sid nx H drwQ):=AC.zs hsn (spec_l07Draw_o hg lim nx hsn)
open Nat (reduceAdd reduceSub reduceGT reduceEqDiff reduceMul)
def prpQ (r:AV):Prop:=∃os X Y os' X' Y',r= .t [prs os X Y,prs os' X' Y']∧drwP os X Y∧drwP os' X' Y'
set_option maxHeartbeats 2000000 in
theorem spec_l16Small_o {bs:List Int} {sid:Nat} {H:HP} (hg:srcOk bs sid H) (nx:Nat) (hsn:sid<nx):AC Tryz.prog 21 nx H [.q sid 0] (fun nx' H' r=>∃r2,Fz H' (blw nx H') r r2∧prpQ r2∧srcOk bs sid H'∧∀i,i<nx→i≠sid→H' i=H i):=by
 refine AC.introx envOk Tryz.func21 rfl (by kernel_rfl) Tryz.ntmps21 Tryz.results21 (fun hfr cX=>?_)
 refine AW.sr envOk (fun N hN=>?_);simp-dsimp-implicitDefEqProofs (disch:=omega)only[go_sem,prs];refine hN _ ?_;try clear hN N
 refine AW.seq (fun N1 hN1=>?_);refine AW.nameH (fun G0 hG0=>?_);dsimp only at hG0
 have hl0:∀i,i<nx→i≠sid→G0 i=H i:=fun i hi _=>by rw[←hG0];simp(disch:=omega)only[upd_ne]
 have hg0:srcOk bs sid G0:=hg.keep (by rw[←hG0];simp(disch:=omega)only[upd_ne])
 have ha0:G0 nx=some [.nl,.nl,.nl]:=by rw[←hG0];simp(disch:=omega)only[upd_ne,upd_same]
 have hb0:G0 (nx+1)=some [.nl,.nl,.nl]:=by rw[←hG0];simp(disch:=omega)only[upd_ne,upd_same]
 clear hG0
 simp-dsimp-implicitDefEqProofs (disch:=omega)only[go_sem];refine AW.sr envOk (fun N hN=>?_);simp-dsimp-implicitDefEqProofs (disch:=omega)only[go_sem,prs];refine(spec_l01Next_s hg0 12 (by omega) _).mono2 ?_
 rintro m1 H1 r1 hm1 ⟨⟨x1,rfl,hx1⟩,hg1,hk1⟩
 have ha1:=(hk1 nx (by omega) (by omega)).trans ha0
 have hb1:=(hk1 (nx+1) (by omega) (by omega)).trans hb0
 have hl1:∀i,i<nx→i≠sid→H1 i=H i:=fun i hi hne=>(hk1 i (by omega) hne).trans (hl0 i hi hne)
 try simp-dsimp-implicitDefEqProofs (disch:=omega)only[go_sem,prs]
 refine hN _ ?_;try clear hN N
 refine AW.cond rfl (fun h1=>?_) (fun h1=>?_)
 ·try simp only[cn]at h1
  refine AW.sr envOk (fun N hN=>?_);simp-dsimp-implicitDefEqProofs (disch:=omega)only[go_sem,prs];refine(spec_l07Draw_s hg1 24 _ (by omega)).mono2 ?_
  rintro m2 H2 r2 hm2 ⟨⟨os,X,Y,rfl,hd⟩,hg2,hk2⟩
  try simp-dsimp-implicitDefEqProofs (disch:=omega)only[go_sem,prs]
  refine hN _ ?_;try clear hN N
  refine AW.freezeQ 4 (m1+2) _ rfl (upd_same _ _ _) ?_
  refine AW.nameH (fun G2 hG2=>?_);dsimp only at hG2
  have hk:∀i,i<m1→i≠sid→G2 i=H1 i:=fun i hi hne=>by rw[←hG2];simp(disch:=omega)only[upd_ne];exact hk2 i (by omega) hne
  have hgs:srcOk bs sid G2:=hg2.keep (by rw[←hG2];simp(disch:=omega)only[upd_ne])
  clear hG2
  simp-dsimp-implicitDefEqProofs (disch:=omega)only[go_sem];refine AW.seq (fun N hN=>?_);refine AW.drawF envOk (by kernel_rfl) [true,true,false,false,false] (by kernel_rfl) ?_
  simp-dsimp-implicitDefEqProofs (disch:=omega)only[go_sem,prs];refine(spec_l07Draw_s hgs 24 _ (by omega)).mono2 ?_
  rintro m3 H3 r3 hm3 ⟨⟨os3,X3,Y3,rfl,hd3⟩,hg3,hk3⟩
  have ha3:=((hk3 nx (by omega) (by omega)).trans (hk nx (by omega) (by omega))).trans ha1
  have hb3:=((hk3 (nx+1) (by omega) (by omega)).trans (hk (nx+1) (by omega) (by omega))).trans hb1
  try simp-dsimp-implicitDefEqProofs (disch:=omega)only[go_sem,prs,ha3,hb3]
  refine hN _ ?_;try clear hN N
  refine AW.ret ?_;simp-dsimp-implicitDefEqProofs (disch:=omega)only[go_sem];exact⟨_,fun _ _ h=>h,_,.refl _,⟨os,X,Y,os3,X3,Y3,rfl,hd,hd3⟩,hg3.keep (by simp(disch:=omega)only[upd_ne]),fun i hi hne=>by simp(disch:=omega)only[upd_ne];exact((hk3 i (by omega) hne).trans (hk i (by omega) hne)).trans (hl1 i hi hne)⟩
 try simp only[cn]at h1
 refine AW.skip ?_;simp only[thn,blk];refine hN1 _ ?_;try clear hN1 N1
 refine AW.sr envOk (fun N hN=>?_);simp-dsimp-implicitDefEqProofs (disch:=omega)only[go_sem,prs];refine(spec_l07Draw_s hg1 12 _ (by omega)).mono2 ?_
 rintro m2 H2 r2 hm2 ⟨⟨os,X,Y,rfl,hd⟩,hg2,hk2⟩
 try simp-dsimp-implicitDefEqProofs (disch:=omega)only[go_sem,prs]
 refine hN _ ?_;try clear hN N
 refine AW.freezeQ 5 (m1+2) _ rfl (upd_same _ _ _) ?_
 refine AW.nameH (fun G2 hG2=>?_);dsimp only at hG2
 have hk:∀i,i<m1→i≠sid→G2 i=H1 i:=fun i hi hne=>by rw[←hG2];simp(disch:=omega)only[upd_ne];exact hk2 i (by omega) hne
 have hgs:srcOk bs sid G2:=hg2.keep (by rw[←hG2];simp(disch:=omega)only[upd_ne])
 clear hG2
 simp-dsimp-implicitDefEqProofs (disch:=omega)only[go_sem];refine AW.sr envOk (fun N hN=>?_);simp-dsimp-implicitDefEqProofs (disch:=omega)only[go_sem,prs];refine(spec_l07Draw_s hgs 8 _ (by omega)).mono2 ?_
 rintro m3 H3 r3 hm3 ⟨⟨os3,X3,Y3,rfl,hd3⟩,hg3,hk3⟩
 try simp-dsimp-implicitDefEqProofs (disch:=omega)only[go_sem,prs]
 refine hN _ ?_;try clear hN N
 refine AW.seq (fun N2 hN2=>?_);refine AW.nameH (fun G3 hG3=>?_);dsimp only at hG3
 have hk4:∀i,i<m1→i≠sid→G3 i=H1 i:=fun i hi hne=>by rw[←hG3];simp(disch:=omega)only[upd_ne];exact(hk3 i (by omega) hne).trans (hk i hi hne)
 have hgs3:srcOk bs sid G3:=hg3.keep (by rw[←hG3];simp(disch:=omega)only[upd_ne])
 have hb6:G3 (m2+2)=some [ints os3,rows X3,cubes Y3]:=by rw[←hG3];simp(disch:=omega)only[upd_same]
 clear hG3
 simp-dsimp-implicitDefEqProofs (disch:=omega)only[go_sem];refine AW.sr envOk (fun N hN=>?_);simp-dsimp-implicitDefEqProofs (disch:=omega)only[go_sem,prs,ints];refine hN _ ?_;try clear hN N
 refine AW.cond rfl (fun h2=>?_) (fun h2=>?_)
 ·try simp only[cn]at h2
  refine AW.regionL envOk ?_;simp-dsimp-implicitDefEqProofs (disch:=omega)only[go_sem,prs];refine(spec_l07Draw_s hgs3 4 _ (by omega)).mono2 ?_
  rintro m4 H4 r4 hm4 ⟨⟨os4,X4,Y4,rfl,hd4⟩,hg4,hk5⟩
  have hb7:=(hk5 (m2+2) (by omega) (by omega)).trans hb6
  try simp-dsimp-implicitDefEqProofs (disch:=omega)only[go_sem,prs,hb7]
  refine hN2 _ ?_;try clear hN2 N2
  first
  |refine AW.freezeQ 6 (m2+2) _ rfl hb6 ?_
  |refine AW.freezeQ 6 (m2+2) _ rfl (upd_same _ _ _) ?_
  refine AW.nameH (fun G5 hG5=>?_);dsimp only at hG5
  obtain⟨hk9,hg9⟩:(∀i,i<m1→i≠sid→G5 i=H1 i)∧srcOk bs sid G5:=by
   first
   |exact⟨fun i hi hne=>by rw[←hG5];simp(disch:=omega)only[upd_ne];exact(hk5 i (by omega) hne).trans (hk4 i hi hne),hg4.keep (by rw[←hG5];simp(disch:=omega)only[upd_ne])⟩
   |exact⟨fun i hi hne=>by rw[←hG5];simp(disch:=omega)only[upd_ne];exact hk4 i hi hne,hgs3.keep (by rw[←hG5];simp(disch:=omega)only[upd_ne])⟩
  have ha9:=(hk9 nx (by omega) (by omega)).trans ha1
  have hb9:=(hk9 (nx+1) (by omega) (by omega)).trans hb1
  simp-dsimp-implicitDefEqProofs (disch:=omega)only[go_sem];refine AW.seq (fun N hN=>?_);refine AW.drawF envOk (by kernel_rfl) [true,true,false,false] (by kernel_rfl) ?_
  simp-dsimp-implicitDefEqProofs (disch:=omega)only[go_sem,prs,ha9,hb9];refine hN _ ?_;try clear hN N
  refine AW.ret ?_;simp-dsimp-implicitDefEqProofs (disch:=omega)only[go_sem];first
  |exact⟨_,fun _ _ h=>h,_,.refl _,⟨os,X,Y,os4,X4,Y4,rfl,hd,hd4⟩,hg9.keep (by simp(disch:=omega)only[upd_ne]),fun i hi hne=>by simp(disch:=omega)only[upd_ne];exact(hk9 i (by omega) hne).trans (hl1 i hi hne)⟩
  |exact⟨_,fun _ _ h=>h,_,.refl _,⟨os,X,Y,os3,X3,Y3,rfl,hd,hd3⟩,hg9.keep (by simp(disch:=omega)only[upd_ne]),fun i hi hne=>by simp(disch:=omega)only[upd_ne];exact(hk9 i (by omega) hne).trans (hl1 i hi hne)⟩
 try simp only[cn]at h2
 refine AW.skip ?_;simp only[thn,blk];refine hN2 _ ?_;try clear hN2 N2
 first
 |refine AW.freezeQ 6 (m2+2) _ rfl hb6 ?_
 |refine AW.freezeQ 6 (m2+2) _ rfl (upd_same _ _ _) ?_
 refine AW.nameH (fun G5 hG5=>?_);dsimp only at hG5
 obtain⟨hk9,hg9⟩:(∀i,i<m1→i≠sid→G5 i=H1 i)∧srcOk bs sid G5:=by
  first
  |exact⟨fun i hi hne=>by rw[←hG5];simp(disch:=omega)only[upd_ne];exact(hk5 i (by omega) hne).trans (hk4 i hi hne),hg4.keep (by rw[←hG5];simp(disch:=omega)only[upd_ne])⟩
  |exact⟨fun i hi hne=>by rw[←hG5];simp(disch:=omega)only[upd_ne];exact hk4 i hi hne,hgs3.keep (by rw[←hG5];simp(disch:=omega)only[upd_ne])⟩
 have ha9:=(hk9 nx (by omega) (by omega)).trans ha1
 have hb9:=(hk9 (nx+1) (by omega) (by omega)).trans hb1
 simp-dsimp-implicitDefEqProofs (disch:=omega)only[go_sem];refine AW.seq (fun N hN=>?_);refine AW.drawF envOk (by kernel_rfl) [true,true,false,false] (by kernel_rfl) ?_
 simp-dsimp-implicitDefEqProofs (disch:=omega)only[go_sem,prs,ha9,hb9];refine hN _ ?_;try clear hN N
 refine AW.ret ?_;simp-dsimp-implicitDefEqProofs (disch:=omega)only[go_sem];first
 |exact⟨_,fun _ _ h=>h,_,.refl _,⟨os,X,Y,os4,X4,Y4,rfl,hd,hd4⟩,hg9.keep (by simp(disch:=omega)only[upd_ne]),fun i hi hne=>by simp(disch:=omega)only[upd_ne];exact(hk9 i (by omega) hne).trans (hl1 i hi hne)⟩
 |exact⟨_,fun _ _ h=>h,_,.refl _,⟨os,X,Y,os3,X3,Y3,rfl,hd,hd3⟩,hg9.keep (by simp(disch:=omega)only[upd_ne]),fun i hi hne=>by simp(disch:=omega)only[upd_ne];exact(hk9 i (by omega) hne).trans (hl1 i hi hne)⟩
theorem spec_l16Small_s {bs:List Int} {sid:Nat} {H:HP} (hg:srcOk bs sid H) (nx:Nat) (hsn:sid<nx):AC Tryz.prog 21 nx H [.q sid 0] (sK bs sid nx H prpQ):=AC.zs hsn (spec_l16Small_o hg nx hsn)
theorem spec_DrawAllHoms_z (bs:List Int) (hb:bytsok bs) (hb4:bs.length≤4096) (nx:Nat):AC Tryz.prog 6 nx noH [byts bs] (fun _ _ r=>prpQ r):=by
 refine AC.introx envOk Tryz.func6 rfl (by kernel_rfl) Tryz.ntmps6 Tryz.results6 (fun hfr cX=>?_)
 refine AW.sr envOk (fun N hN=>?_);simp-dsimp-implicitDefEqProofs (disch:=omega)only[go_sem,prs];refine hN _ ?_;try clear hN N
 refine AW.sr envOk (fun N hN=>?_);simp-dsimp-implicitDefEqProofs (disch:=omega)only[go_sem,prs];refine AC.mono2 (AC.frame (spec_l01From_n bs hb hb4 _)) ?_
 rintro m1 H1 r1 hm1 ⟨H0,⟨sid,a1,s1,rfl,hsid1,hsid2,ho1,hs0⟩,hlow,hhigh⟩
 have hs1:=(hhigh sid hsid1).trans hs0
 have ha1:H1 nx=some [.nl,.nl,.nl]:=by rw[hlow nx (by omega)];simp(disch:=omega)only[upd_ne,upd_same]
 have hb1:H1 (nx+1)=some [.nl,.nl,.nl]:=by rw[hlow (nx+1) (by omega)];simp(disch:=omega)only[upd_ne,upd_same]
 try simp-dsimp-implicitDefEqProofs (disch:=omega)only[go_sem,prs]
 refine(spec_l16Small_s ⟨a1,s1,ho1,hs1⟩ _ (by omega)).mono2 ?_
 rintro m2 H2 r2 hm2 ⟨⟨os,X,Y,os3,X3,Y3,rfl,hd,hd3⟩,hg2,hk2⟩
 have ha2:=(hk2 nx (by omega) (by omega)).trans ha1
 have hb2:=(hk2 (nx+1) (by omega) (by omega)).trans hb1
 try simp-dsimp-implicitDefEqProofs (disch:=omega)only[go_sem,prs]
 refine hN _ ?_;try clear hN N
 refine AW.freezeQ 4 (nx+2+6) [ints os,rows X,cubes Y] rfl (by simp(disch:=omega)only[upd_same,upd_ne]) ?_
 simp-dsimp-implicitDefEqProofs (disch:=omega)only[go_sem];refine AW.freezeQ 5 (nx+2+7) [ints os3,rows X3,cubes Y3] rfl (by simp(disch:=omega)only[upd_same,upd_ne]) ?_
 simp-dsimp-implicitDefEqProofs (disch:=omega)only[go_sem];refine AW.seq (fun N hN=>?_);refine AW.drawF envOk (by kernel_rfl) [true,true,false,false] (by kernel_rfl) ?_
 simp-dsimp-implicitDefEqProofs (disch:=omega)only[go_sem,prs,ha2,hb2];refine hN _ ?_;try clear hN N
 refine AW.ret ?_;simp-dsimp-implicitDefEqProofs (disch:=omega)only[go_sem];exact⟨_,fun _ _ h=>h,os,X,Y,os3,X3,Y3,rfl,hd,hd3⟩
end Go.Proofs.YtghmeeifjeafmaaGreat
