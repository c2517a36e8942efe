import Derived.Test.YtghmeeifjeafmaaGreatZ13
import Derived.Test.YtghmeeifjeafmaaGreatZ30
set_option linter.unusedVariables false
set_option linter.unusedSimpArgs false
namespace Go.Proofs.YtghmeeifjeafmaaGreat
open Nat (reduceAdd reduceSub reduceGT reduceEqDiff reduceMul)
theorem one_lh {i o n:Nat}:(∀z∈ [AV.h i o n],one z=true)=True:=one_list rfl
def unL (n j:Nat):List Int:=vec n (fun k=>if k=j then 1 else 0)
theorem unL_len (n j:Nat):(unL n j).length=n:=by simp[unL,vec]
theorem spec_l07Unit_n (n j:Nat) (hn:n≤1048576) (hj:j<n) (nx:Nat) (H:HP):AC Tryz.prog 149 nx H [.i .i64 n,.i .i64 j] (fun nx' H' r=>FrI nx nx' H H' r n (fun k=>if k=j then 1 else 0)):=by
 refine AC.introx envOk Tryz.func149 rfl (by kernel_rfl) Tryz.ntmps149 Tryz.results149 (fun hfr cX=>?_)
 refine AW.sr envOk (fun N hN=>?_);simp-dsimp-implicitDefEqProofs (disch:=omega)only[go_sem];refine hN _ ?_;try clear hN N
 refine AW.sr envOk (fun N hN=>?_);simp-dsimp-implicitDefEqProofs (disch:=omega)only[go_sem];refine hN _ ?_;try clear hN N
 refine AW.sr envOk (fun N hN=>?_);simp-dsimp-implicitDefEqProofs (disch:=omega)only[go_sem];refine hN _ ?_;try clear hN N
 refine AW.sr envOk (fun N hN=>?_);simp-dsimp-implicitDefEqProofs (disch:=omega)only[go_sem];refine hN _ ?_;try clear hN N
 refine AW.ret ?_;simp-dsimp-implicitDefEqProofs (disch:=omega)only[go_sem];refine⟨_,?_,nx+1+1,rfl,by omega,by omega,rfl⟩
 rw[ivs_zero,ivs_set hj,show fset (fun _=>(0:Int)) j 1=fun k=>if k=j then 1 else 0 from rfl]
 intro i c hi
 have hlt:H i=some c→i<nx:=fun h=>by apply Classical.byContradiction;intro hn;rw[hfr i (by omega)]at h;cases h
 simp only[upd]at hi ⊢
 split at hi
 ·rename_i e;subst e;cases hi;repeat (first|rw[if_pos rfl]|rw[if_neg (by omega)])
 have:=hlt hi;repeat rw[if_neg (by omega)]
 exact hi
theorem spec_l07Unit_o (n j:Nat) (hn:n≤1048576) (hj:j<n):ACo Tryz.prog 149 [.i .i64 n,.i .i64 j] (ints (unL n j)):=FrI.aco (fun nx=>spec_l07Unit_n n j hn hj nx noH)
def trP (n:Nat):List (List Int):=List.replicate n (List.replicate n 0)
def trR (n i:Nat):List (List Int):=(List.range (n-(i+1))).map fun j=>unL n (i+1+j)
def trC (n:Nat):List (List (List Int)):=(List.range n).map (trR n)
theorem trP_take {n k:Nat} (h:k<n):(trP n).take (k+1)=(trP n).take k++[List.replicate n 0]:=by
  rw[List.take_succ_eq_append_getElem (by simpa[trP]using h)];simp[trP]
theorem trR_take {n i j:Nat} (h:i+1+j<n):((trR n i).map ints).take (j+1)=((trR n i).map ints).take j++[ints (unL n (i+1+j))]:=by
  rw[List.take_succ_eq_append_getElem (by simp[trR];omega)];simp[trR]
theorem trC_take {n k:Nat} (h:k<n):(trC n).take (k+1)=(trC n).take k++[trR n k]:=by
  rw[List.take_succ_eq_append_getElem (by simpa[trC]using h)];simp[trC]
theorem trR_len (n i:Nat):(trR n i).length=n-(i+1):=by simp[trR]
theorem trC_len (n:Nat):(trC n).length=n:=by simp[trC]
theorem trP_len (n:Nat):(trP n).length=n:=by simp[trP]
theorem rep0 (n:Nat):List.replicate n (AV.i .i64 0)=(List.replicate n (0:Int)).map (.i .i64):=by simp
theorem clone_o (a:List Int) (ha:a.length≤1099511627776):ACo Tryz.prog 56 [ints a] (ints a):=fun nx=>by
  refine(slices_Clone_int64_int64_ok a ha nx noH).mono ?_
  rintro nx' H' r (h|⟨h1,rfl,rfl⟩)
  · have:=h.own
    rwa [←vec_of]at this
  rw[List.length_eq_zero_iff.1 h1]
  exact⟨[],.leaf _ .v0 (.v _ _ (by simp)),by simp,by simp⟩
theorem own_o (a:List Int) (ha:a.length≤1099511627776):ACo Tryz.prog 104 [ints a] (ints a):=by
  have:=FrI.aco (fun nx=>spec_l01Own_ok a ha nx noH)
  rwa [←vec_of]at this
set_option maxHeartbeats 4000000 in theorem spec_l07Trivial_w (os:List Int) (hn:os.length≤1000):∀nx,AC Tryz.prog 118 nx noH [ints os] (fun nx' H' r=>∃r0 P B cp cb,r= .g [r0,P,B]∧PgW nx nx' H' r0 P B os (trP os.length) (trC os.length) cp cb):=by
 intro nx
 refine AC.intro' envOk Tryz.func118 rfl (by kernel_rfl) Tryz.ntmps118 Tryz.results118 (fun cX=>?_)
 refine AW.sr envOk (fun N hN=>?_);simp-dsimp-implicitDefEqProofs (disch:=omega)only[go_sem,ints,cne];refine hN _ ?_;try clear hN N
 refine AW.sr envOk (fun N hN=>?_);simp-dsimp-implicitDefEqProofs (disch:=omega)only[go_sem,ints,cne];refine hN _ ?_;try clear hN N
 refine AW.sr envOk (fun N hN=>?_);simp-dsimp-implicitDefEqProofs (disch:=omega)only[go_sem,ints,cne];refine AC.own (own_o os (by omega)) (.cons (.refl _) .nil) ?_
 intro m0 H0 r0 ids0 hm0 hH0 hown0
 obtain⟨u1,u2,u3⟩:=hown0.1.slice
 try simp-dsimp-implicitDefEqProofs (disch:=omega)only[go_sem,u1,u2,u3]
 refine hN _ ?_;try clear hN N
 refine AW.seq (fun N1 hN1=>?_);refine AW.sr envOk (fun N hN=>?_);simp-dsimp-implicitDefEqProofs (disch:=omega)only[go_sem,ints,cne];refine hN _ ?_;try clear hN N
 refine AW.block ?_;refine AW.nameH (fun G0 hG0=>?_);dsimp only at hG0
 have hq0:G0 (nx+7)=some [r0,.nl,.nl]:=by rw[←hG0];simp(disch:=omega)only[upd_same]
 have hx0:G0 nx=some [.nl,.nl,.nl]:=by rw[←hG0,upd_ne _ _ (by omega),hH0 _ (by omega)];simp(disch:=omega)only[upd_same]
 have hp0:PgO (nx+9) m0 G0 r0 .nl .nl os [] []:=⟨ids0,[],[],⟨hown0.1.keep (fun i hi=>by have:=hown0.2.2 i hi;rw[←hG0,upd_ne _ _ (by omega)]),.nl,.nl⟩,by simpa using hown0.2.1,fun i hi=>by have:=hown0.2.2 i (by simpa using hi);omega⟩
 refine AW.loopN (α:=Nat×HP×AV×AV×List AV×List AV) (fun x=>sl 46 [(2,.q nx 0),(3,.i .i64 os.length),(4,.q (nx+7) 0),(5,.i .i64 x.1)]) (fun x=>x.2.1) (fun x m=>(x.1≤os.length∧m0≤m)∧(x.2.1 (nx+7)=some [r0,x.2.2.1,x.2.2.2.1]∧x.2.1 nx=some [.nl,.nl,.nl])∧PgO (nx+9) m x.2.1 r0 x.2.2.1 x.2.2.2.1 os ((trP os.length).take x.1) ((trC os.length).take x.1)∧(LC x.2.1 (nx+9) m x.2.2.1 x.2.2.2.2.1∧x.2.2.2.2.1.length=x.1)∧(LC x.2.1 (nx+9) m x.2.2.2.1 x.2.2.2.2.2∧x.2.2.2.2.2.length=x.1)∧∀y∈x.2.2.2.2.2,isH y=true) (fun x=>os.length-x.1) ((0,G0,.nl,.nl,[],[])) ?_ ?_ (fun _ _ h=>h) ?_
 ·exact⟨⟨by simp,by first|omega|(simp only;omega)|(dsimp only;omega)⟩,⟨hq0,hx0⟩,by simpa using hp0.keep (fun _ _ _=>rfl) (by first|omega|(simp only;omega)|(dsimp only;omega)),⟨.nil,rfl⟩,⟨.nil,rfl⟩,by simp⟩
 ·simp(disch:=omega) [wks,wkA,sl,w64,ints]
 skip
 rintro⟨k,G,P,B,cp,cb⟩ m ⟨⟨hk,hm⟩,⟨hq,hx⟩,hpg,⟨hlp,hcp⟩,⟨hlb,hcb⟩,hih⟩
 simp-dsimp-implicitDefEqProofs (disch:=omega)only[go_sem];dsimp only at hk hm hq hx hpg hlp hcp hlb hcb hih ⊢
 have hPb:=hlp.bd
 have hPo:=hlp.one
 have hPl:=hlp.len
 have hBb:=hlb.bd
 have hBo:=hlb.one
 have hBl:=hlb.len
 refine AW.seq (fun N2 hN2=>?_);refine AW.sr envOk (fun N hN=>?_);simp-dsimp-implicitDefEqProofs (disch:=omega)only[go_sem,ints,cne];refine hN _ ?_;try clear hN N
 refine AW.cond rfl (fun h1=>?_) (fun h1=>?_)
 ·try simp only[cn]at h1
  have hkn:k<os.length:=by omega
  refine AW.skip ?_;simp only[thn,blk];refine hN2 _ ?_;try clear hN2 N2
  refine AW.seq (fun N3 hN3=>?_);refine AW.block ?_;refine AW.seq (fun N hN=>?_);refine AW.drawT envOk (by kernel_rfl) [true,false,true,false,false,false,true,false] (.br 1 (.br 3 (.br 4 (.br 5 (.br 7 .nil .nil) .nil) .nil) .nil) (.br 3 (.br 1 (.br 4 (.br 5 (.br 7 .nil .nil) .nil) .nil) (.br 4 (.br 1 (.br 5 (.br 7 .nil .nil) .nil) .nil) .nil)) .nil)) (by kernel_rfl) ?_
  simp-dsimp-implicitDefEqProofs (disch:=(first|omega|((repeat refine LC.upd (by omega) ?_);assumption))) only[go_sem,ints,cne,↓hrF_t,↓hrF_f,↓hrF_n,and_self,one_lh,hq,hPo,hPl,hcp,dl_ne,apst_LC (a:=nx+9) (b:=m) (L:=P) (cs:=cp)]
  refine hN _ ?_;try clear hN N
  refine AW.nameH (fun G1 hG1=>?_);dsimp only at hG1
  have hG1q:G1 (nx+7)=some [r0,.h (m+3+5) 0 (k+1),B]:=by rw[←hG1];simp(disch:=omega)only[upd_same]
  have hG1n:G1 (m+3+5)=some (cp++[.h (m+3+3) 0 os.length]):=by rw[←hG1];simp(disch:=omega)only[upd_same,upd_ne]
  have hG1z:G1 (m+3+3)=some ((List.replicate os.length (0:Int)).map (.i .i64)):=by rw[←hG1,←rep0];simp(disch:=omega)only[upd_same,upd_ne,dl_ne]
  have hG1x:G1 nx=some [.nl,.nl,.nl]:=by rw[←hG1,←hx];simp(disch:=omega)only[upd_ne,dl_ne]
  have hG1k:∀i,nx+9≤i→i<m→bk P≠i+1→G1 i=G i:=fun i i1 i2 i3=>by rw[←hG1];simp(disch:=omega)only[upd_ne,dl_ne]
  have hpg1:PgO (nx+9) (m+3+8) G1 r0 (.h (m+3+5) 0 (k+1)) B os ((trP os.length).take (k+1)) ((trC os.length).take k):=by
   rw[trP_take hkn,←hcp]
   rw[←hcp]at hpg
   exact hpg.pushP hlp (Ow.ints hG1z (by simp)) (by simp) (fun i hi=>by simp at hi;omega) hG1n (by omega) (by simp) (by omega) hG1k
  have hPB:=hpg.ne hlp hlb
  have hlb1:LC G1 (nx+9) m B cb:=hlb.keep1 (fun i hi=>hG1k i (by omega) (by omega) (by omega))
  obtain⟨b1,hb1⟩:∃q,m+3+8=q:=⟨_,rfl⟩
  rw[hb1]at hpg1
  refine AW.sr envOk (fun N hN=>?_);simp-dsimp-implicitDefEqProofs (disch:=omega)only[go_sem,ints,cne];refine hN _ ?_;try clear hN N
  refine AW.seq (fun N4 hN4=>?_);refine AW.sr envOk (fun N hN=>?_);simp-dsimp-implicitDefEqProofs (disch:=omega)only[go_sem,ints,cne];refine hN _ ?_;try clear hN N
  refine AW.block ?_;refine AW.nameH (fun G2 hG2=>?_);dsimp only at hG2
  have hG2k:∀i,i<b1→G2 i=G1 i:=fun i i1=>by rw[←hG2];simp(disch:=omega)only[upd_ne]
  have hG2n:G2 b1=some []:=by rw[←hG2,hb1];simp(disch:=omega)only[upd_same]
  refine AW.loopN (α:=Nat×HP×AV×List AV) (fun x=>sl 46 [(2,.q nx 0),(3,.i .i64 os.length),(4,.q (nx+7) 0),(5,.i .i64 k),(6,x.2.2.1),(7,.i .i64 ((k+1+x.1:Nat):Int))]) (fun x=>x.2.1) (fun x m=>(k+1+x.1≤os.length∧b1≤m)∧(∀i,i<b1→x.2.1 i=G1 i)∧OLi b1 m x.2.1 x.2.2.1 x.2.2.2 (((trR os.length k).map ints).take x.1)) (fun x=>os.length-x.1) ((0,G2,.h b1 0 0,[])) ?_ ?_ (fun _ _ h=>h) ?_
  ·exact⟨⟨by first|omega|(simp only;omega)|(dsimp only;omega),by first|omega|(simp only;omega)|(dsimp only;omega)⟩,hG2k,by simpa using OLi.empty hG2n (Nat.le_refl _) (by first|omega|(simp only;omega)|(dsimp only;omega))⟩
  ·simp(disch:=omega) [wks,wkA,sl,w64]<;>omega
  skip
  rintro⟨j,H2,L,cl⟩ m2 ⟨⟨hj,hm2⟩,hH2,hL⟩
  simp-dsimp-implicitDefEqProofs (disch:=omega)only[go_sem];dsimp only at hj hm2 hH2 hL ⊢
  have hLC:=hL.1
  have hLb:=hLC.bd
  have hLo:=hLC.one
  have hLl:=hLC.len
  obtain⟨hLc,hLk⟩:=hLC.cells
  have hcl:=hL.len
  rw[List.length_take,List.length_map,trR_len]at hcl
  refine AW.seq (fun N5 hN5=>?_);refine AW.sr envOk (fun N hN=>?_);simp-dsimp-implicitDefEqProofs (disch:=omega)only[go_sem,ints,cne];refine hN _ ?_;try clear hN N
  refine AW.cond rfl (fun h2=>?_) (fun h2=>?_)
  ·try simp only[cn]at h2
   have hj2:k+1+j<os.length:=by omega
   have hcl2:cl.length=j:=by omega
   refine AW.skip ?_;simp only[thn,blk];refine hN5 _ ?_;try clear hN5 N5
   refine AW.seq (fun N6 hN6=>?_);refine AW.block ?_;refine AW.regionL envOk ?_;simp-dsimp-implicitDefEqProofs (disch:=omega)only[go_sem,ints,cne];refine AC.own (spec_l07Unit_o os.length (k+1+j) (by omega) (by omega)) (.cons (.refl _) (.cons (.refl _) .nil)) ?_
   intro m3 H3 r3 ids3 hm3 hH3 hown3
   obtain⟨u4,u5,u6⟩:=hown3.1.slice
   have hl3:LC H3 b1 m2 L cl:=hLC.keep (fun i i1 i2=>hH3 i (by omega))
   have u7:=one_list u5
   try simp-dsimp-implicitDefEqProofs (disch:=(first|omega|((repeat refine LC.upd (by omega) ?_);assumption))) only[go_sem,u4,u5,u6,u7,hLl,hcl2,apst_LC (a:=b1) (b:=m2) (L:=L) (cs:=cl)]
   refine hN6 _ ?_;try clear hN6 N6
   refine AW.nameH (fun G3 hG3=>?_);dsimp only at hG3
   refine AW.regionL envOk ?_;simp-dsimp-implicitDefEqProofs (disch:=omega)only[go_sem,ints,cne];refine⟨(j+1,G3,.h (m2+3+5) 0 (j+1),cl++[r3]),?_,fun _ _ h=>h,?_,?_⟩
   ·simp(disch:=omega) [wks,wkA,sl,w64,ints,rows,cubes,ints,w64,cne]<;>omega
   ·refine⟨⟨by first|omega|(simp only;omega)|(dsimp only;omega),by first|omega|(simp only;omega)|(dsimp only;omega)⟩,fun i hi=>?_,?_⟩
    ·dsimp only;rw[←hG3];simp(disch:=omega)only[upd_ne,dl_ne];rw[hH3 i (by omega)];exact hH2 i hi
    dsimp only
    rw[trR_take hj2]
    have hpu:=hL.push (H':=G3) (id:=m2+3+5) (m':=m3) (hown3.1.keep (fun i hi=>by have:=hown3.2.2 i hi;rw[←hG3];simp(disch:=omega)only[upd_ne,dl_ne])) hown3.2.1 (fun i hi=>by have:=hown3.2.2 i hi;omega) (by rw[←hG3];simp(disch:=omega)only[upd_same]) (by omega) (fun hi=>by have:=hown3.2.2 _ hi;omega) (by omega) (fun i i1 i2 i3=>by rw[←hG3];simp(disch:=omega)only[upd_ne,dl_ne];exact hH3 i (by omega))
    rw[hcl2]at hpu
    exact hpu.keep (fun _ _ _=>rfl) (by first|omega|(simp only;omega)|(dsimp only;omega))
   first|omega|(simp only;omega)
  try simp only[cn]at h2
  have hje:j=os.length-(k+1):=by omega
  have hq2:H2 (nx+7)=some [r0,.h (m+3+5) 0 (k+1),B]:=(hH2 _ (by omega)).trans hG1q
  have hlb2:LC H2 (nx+9) m B cb:=hlb1.keep (fun i i1 i2=>hH2 i (by omega))
  rw[List.take_of_length_le (by rw[List.length_map,trR_len];omega)]at hL
  have u7:=one_list hLo
  refine AW.exit ?_;simp only[thn,blk,if_true];refine hN4 _ ?_;try clear hN4 N4
  refine AW.regionL envOk ?_;simp-dsimp-implicitDefEqProofs (disch:=(first|omega|((repeat refine LC.upd (by omega) ?_);assumption))) only[go_sem,ints,cne,u7,hLc,hLk,hLo,hq2,hBo,hBl,hcb,dl_ne,apst_LC (a:=nx+9) (b:=m) (L:=B) (cs:=cb)]
  refine hN3 _ ?_;try clear hN3 N3
  refine AW.nameH (fun G5 hG5=>?_);dsimp only at hG5
  have hG5q:G5 (nx+7)=some [r0,.h (m+3+5) 0 (k+1),.h (m2+3+4) 0 (k+1)]:=by rw[←hG5];simp(disch:=omega)only[upd_same]
  have hG5n:G5 (m2+3+4)=some (cb++[L]):=by rw[←hG5];simp(disch:=omega)only[upd_same,upd_ne]
  have hG5l:∀i,i<m2→i≠nx+7→bk B≠i+1→G5 i=H2 i:=fun i i1 i2 i3=>by rw[←hG5];simp(disch:=omega)only[upd_ne,dl_ne]
  obtain⟨_,idsL,o1,o2,o3⟩:=hL
  have hpg5:PgO (nx+9) (m2+12) G5 r0 (.h (m+3+5) 0 (k+1)) (.h (m2+3+4) 0 (k+1)) os ((trP os.length).take (k+1)) ((trC os.length).take (k+1)):=by
   rw[trC_take hkn]
   have:=hpg1.pushB (m':=m2+12) (x:=trR os.length k) (r1:=L) (is:=idsL) (H':=G5) (id:=m2+3+4) hlb1 (by rw[rows_v];exact o1.keep (fun i hi=>by have:=o3 i hi;exact hG5l i (by omega) (by omega) (by omega))) o2 (fun i hi=>by have:=o3 i hi;omega) hG5n (by omega) (fun hi=>by have:=o3 _ hi;omega) (by omega) (fun i i1 i2 i3=>by rw[hG5l i (by omega) (by omega) (by omega)];exact hH2 i (by omega))
   rwa [hcb]at this
  refine AW.regionL envOk ?_;simp-dsimp-implicitDefEqProofs (disch:=omega)only[go_sem,ints,cne];refine⟨(k+1,G5,.h (m+3+5) 0 (k+1),.h (m2+3+4) 0 (k+1),cp++[.h (m+3+3) 0 os.length],cb++[L]),?_,fun _ _ h=>h,?_,?_⟩
  ·simp(disch:=omega) [wks,wkA,sl,w64,ints,rows,cubes,ints,w64,cne]<;>omega
  ·refine⟨⟨by first|omega|(simp only;omega)|(dsimp only;omega),by first|omega|(simp only;omega)|(dsimp only;omega)⟩,⟨hG5q,?_⟩,hpg5.keep (fun _ _ _=>rfl) (by first|omega|(simp only;omega)|(dsimp only;omega)),⟨.mk ?_ (by simp[hcp]) (by omega) (by first|omega|(simp only;omega)|(dsimp only;omega)),by simp[hcp]⟩,⟨.mk hG5n (by simp[hcb]) (by omega) (by first|omega|(simp only;omega)|(dsimp only;omega)),by simp[hcb]⟩,isH_app hih hLC.isH⟩
   ·dsimp only;rw[hG5l _ (by omega) (by omega) (by omega),hH2 _ (by omega)];exact hG1x
   dsimp only;rw[hG5l _ (by omega) (by omega) (by omega),hH2 _ (by omega)];exact hG1n
  first|omega|(simp only;omega)
 try simp only[cn]at h1
 have hke:k=os.length:=by omega
 refine AW.exit ?_;simp only[thn,blk,if_true];refine hN1 _ ?_;try clear hN1 N1
 refine AW.sr envOk (fun N hN=>?_);simp-dsimp-implicitDefEqProofs (disch:=omega)only[go_sem,ints,cne,hq,hx,u2,hPo,hBo,Bool.and_self];refine hN _ ?_;try clear hN N
 refine AW.ret ?_;simp-dsimp-implicitDefEqProofs (disch:=omega)only[go_sem];rw[List.take_of_length_le (by rw[trP_len];omega),List.take_of_length_le (by rw[trC_len];omega)]at hpg
 exact⟨r0,P,B,cp,cb,rfl,PgW.wide (PgW.keep ⟨hpg,hlp,hlb,hih⟩ (fun i i1 i2=>by simp(disch:=omega)only[upd_ne]) (Nat.le_refl _)) (by omega) (by omega)⟩
theorem spec_l07Trivial_o (os:List Int) (hn:os.length≤1000):ACo Tryz.prog 118 [ints os] (prs os (trP os.length) (trC os.length)):=fun nx=>(spec_l07Trivial_w os hn nx).mono (by
  rintro nx' H' r ⟨r0,P,B,cp,cb,rfl,h⟩
  exact h.1.own)
theorem splice1 {cs:List AV} {k:Nat} {x:AV} (h:k<cs.length):splice cs k [x]=cs.set k x:=by
  rw[splice,List.set_eq_take_append_cons_drop,if_pos h];simp
theorem Ow.put1 {H H':HP} {p k n:Nat} {rs ts:List AV} {ids is:List Nat} {r X:AV} (h:Ow H (.h p 0 n) (.v n ts) ids) (hp:H p=some rs) (hk:k<rs.length) (ho:Ow H' r X is) (hp':H' p=some (splice rs k [r])) (hkeep:∀i∈ids,i≠p→H' i=H i) (hnd:ids.Nodup):
    rs.length=n∧ts.length=n∧∃l2 l3,(∀i∈l2++l3,i∈ids)∧p∈ids∧p∉l2++l3∧(l2++l3).Nodup∧Ow H' (.h p 0 n) (.v n (ts.set k X)) (p::(l2++(is++l3))):=by
  rcases h.vInv _ _ rfl with ⟨e,_⟩|⟨e,_⟩|⟨id,cs2,ids',e,rfl,g1,g2,g3⟩
  · cases e
  · cases e
  injection e with e1 e2 e3
  subst e1
  rw[hp]at g1;cases g1
  have hlen:=g3.len
  obtain⟨hn1,hn2⟩:=List.nodup_cons.1 hnd
  obtain⟨il,ia,ir,rfl,s1,s2,s3⟩:=(g3.keep (H':=H') (fun i hi=>hkeep i (by simp[hi]) (fun e=>hn1 (by rw[←e];exact hi)))).cut (a:=k) hk
  have s4:=OwL.set s1 ho s3 hk (by omega)
  have:=Ow.h p _ _ _ hp' (by rw[splice1 hk];exact s4)
  rw[splice1 hk,List.length_set,g2]at this
  refine⟨g2,by omega,il,ir,fun i hi=>?_,by simp,?_,?_,this⟩
  · simp only[List.mem_append,List.mem_cons]at hi ⊢;grind
  · simp only[List.mem_append,not_or]at hn1 ⊢;grind
  simp only[List.nodup_append,List.mem_append]at hn2 ⊢;grind
theorem PgO.rowP {a m:Nat} {H:HP} {r P B:AV} {os:List Int} {X:List (List Int)} {Y:List (List (List Int))} {b c:Nat} {cs:List AV} (h:PgO a m H r P B os X Y) (hP:LC H b c P cs) (hX:0<X.length):∃p,P= .h p 0 X.length∧H p=some cs∧cs.length=X.length∧a≤p∧p<m:=by
  obtain⟨i0,i1,i2,⟨h0,h1,h2⟩,h3,h4⟩:=h
  rw[rows_v]at h1
  rcases h1.lc hP with ⟨_,_,e,_⟩|⟨q,ids',rfl,g1,g2,rfl,g3⟩
  · rw[List.length_map]at e;omega
  rw[List.length_map]at g2
  exact⟨q,by rw[g2],g1,g2.symm,h4 q (by simp)⟩
theorem PgO.setP {a a' m m' p k n:Nat} {H H':HP} {r B r1:AV} {os:List Int} {X:List (List Int)} {Y:List (List (List Int))} {rs:List AV} {x:List Int} {is:List Nat} (h:PgO a m H r (.h p 0 n) B os X Y) (hp:H p=some rs) (hk:k<rs.length) (hn:n=X.length) (ho:Ow H' r1 (ints x) is) (hnd:is.Nodup) (hb:∀i∈is,(i<a∨m≤i)∧a'≤i∧i<m')
    (hp':H' p=some (splice rs k [r1])) (hkeep:∀i,a≤i→i<m→i≠p→H' i=H i) (hm:m≤m') (ham:a'≤a):PgO a' m' H' r (.h p 0 n) B os (X.set k x) Y:=by
  subst hn
  obtain⟨i0,i1,i2,⟨h0,h1,h2⟩,h3,h4⟩:=h
  unfold rows at h1
  have hn1:i1.Nodup:=by grind
  obtain⟨g1,g2,l2,l3,g3,g4,g5,g6,g7⟩:=h1.put1 hp hk ho hp' (fun i hi=>hkeep i (h4 i (by simp[hi])).1 (h4 i (by simp[hi])).2) hn1
  have hne:∀i,i∈i0∨i∈i2→i≠p:=by
    intro i hi e
    subst e
    grind
  refine⟨i0,p::(l2++(is++l3)),i2,⟨h0.keep fun i hi=>hkeep i (h4 i (by simp[hi])).1 (h4 i (by simp[hi])).2 (hne i (.inl hi)),?_,h2.keep fun i hi=>hkeep i (h4 i (by simp[hi])).1 (h4 i (by simp[hi])).2 (hne i (.inr hi))⟩,?_,?_⟩
  · unfold rows
    rw[List.length_set,List.map_set];exact g7
  · have h5:∀i∈i0++(i1++i2),a≤i∧i<m:=h4
    simp only[List.nodup_append,List.nodup_cons,List.mem_append,List.mem_cons]at h3 h5 g3 g5 g6 ⊢
    grind
  intro i hi
  simp only[List.mem_append,List.mem_cons]at hi h4 g3
  grind
theorem PgO.rowB {a m k:Nat} {H:HP} {r P B:AV} {os:List Int} {X:List (List Int)} {Y:List (List (List Int))} {b c:Nat} {cs:List AV} (h:PgO a m H r P B os X Y) (hB:LC H b c B cs) (hk:k<Y.length) (hl:0<(Y.getD k []).length) (hih:isH (cs.getD k .j)=true):
    ∃b q ds,B= .h b 0 Y.length∧H b=some cs∧cs.length=Y.length∧(a≤b∧b<m)∧cs.getD k .j= .h q 0 (Y.getD k []).length∧H q=some ds∧ds.length=(Y.getD k []).length∧(a≤q∧q<m)∧q≠b:=by
  obtain⟨i0,i1,i2,⟨h0,h1,h2⟩,h3,h4⟩:=h
  rw[cubes_v]at h2
  rcases h2.lc hB with ⟨_,_,e,_⟩|⟨b1,ids',rfl,g1,g2,rfl,g3⟩
  · rw[List.length_map]at e;omega
  rw[List.length_map]at g2
  obtain⟨il,ia,ir,rfl,s1,s2,s3⟩:=g3.cut (a:=k) (by omega)
  rw[gd_c hk]at s2
  unfold rows at s2
  rcases s2.vInv _ _ rfl with ⟨e,_⟩|⟨_,e,_⟩|⟨q,ds,ls,e,rfl,t1,t2,t3⟩
  · rw[e]at hih;cases hih
  · omega
  refine⟨b1,q,ds,by rw[g2],g1,g2.symm,h4 b1 (by simp),e,t1,t2,h4 q (by simp),?_⟩
  grind
theorem PgO.setB {a a' m m' b q k l n:Nat} {H H':HP} {r P r1:AV} {os:List Int} {X:List (List Int)} {Y:List (List (List Int))} {cs ds:List AV} {x:List Int} {is:List Nat} (h:PgO a m H r P (.h b 0 n) os X Y) (hb0:H b=some cs) (hk:k<cs.length) (hn:n=Y.length) (hq:cs.getD k .j= .h q 0 (Y.getD k []).length) (hd:H q=some ds) (hl:l<ds.length) (ho:Ow H' r1 (ints x) is) (hnd:is.Nodup) (hb:∀i∈is,(i<a∨m≤i)∧a'≤i∧i<m')
    (hq':H' q=some (splice ds l [r1])) (hkeep:∀i,a≤i→i<m→i≠q→H' i=H i) (hm:m≤m') (ham:a'≤a):PgO a' m' H' r P (.h b 0 n) os X (Y.set k ((Y.getD k []).set l x)):=by
  subst hn
  obtain⟨i0,i1,i2,⟨h0,h1,h2⟩,h3,h4⟩:=h
  unfold cubes at h2
  rcases h2.vInv _ _ rfl with ⟨e,_⟩|⟨e,_⟩|⟨b1,cs1,ids',e,rfl,g1,g2,g3⟩
  · cases e
  · cases e
  injection e with e1 e2 e3
  subst e1
  rw[hb0]at g1;cases g1
  have hn2:(b::ids').Nodup:=by grind
  obtain⟨hn3,hn4⟩:=List.nodup_cons.1 hn2
  obtain⟨il,ia,ir,rfl,s1,s2,s3⟩:=g3.cut (a:=k) hk
  rw[gd_c (by omega),hq]at s2
  unfold rows at s2
  have hna:ia.Nodup:=by grind
  have hia:∀i∈ia,a≤i∧i<m:=fun i hi=>h4 i (by simp[hi])
  obtain⟨w1,w2,l2,l3,w3,w4,w5,w6,w7⟩:=s2.put1 hd hl ho hq' (fun i hi hne=>hkeep i (hia i hi).1 (hia i hi).2 hne) hna
  have hoth:∀i,i∈i0∨i∈i1∨i=b∨i∈il∨i∈ir→i≠q:=by
    intro i hi e
    subst e
    simp only[List.nodup_append,List.nodup_cons,List.mem_append,List.mem_cons,not_or]at h3
    grind
  have hall:∀i,i∈i0∨i∈i1∨i=b∨i∈il∨i∈ir→H' i=H i:=by
    intro i hi
    have h5:a≤i∧i<m:=h4 i (by simp only[List.mem_append,List.mem_cons];grind)
    exact hkeep i h5.1 h5.2 (hoth i hi)
  have v4:=OwL.set (s1.keep fun i hi=>hall i (by simp[hi])) w7 (s3.keep fun i hi=>hall i (by simp[hi])) hk (by simp;omega)
  have hset:cs.set k (.h q 0 (Y.getD k []).length)=cs:=by
    apply List.ext_getElem?
    intro i
    rw[List.getElem?_set]
    split
    · rename_i e
      subst e
      rw[←hq,List.getD_eq_getElem?_getD,List.getElem?_eq_getElem hk];rfl
    rfl
  rw[hset]at v4
  have v5:=Ow.h b _ _ _ ((hall b (by simp)).trans hb0) v4
  refine⟨i0,i1,b::(il++(q::(l2++(is++l3))++ir)),⟨h0.keep fun i hi=>hall i (by simp[hi]),h1.keep fun i hi=>hall i (by simp[hi]),?_⟩,?_,?_⟩
  · rw[g2]at v5
    unfold cubes
    rw[List.length_set,List.map_set]
    have e9:rows ((Y.getD k []).set l x)= .v (Y.getD k []).length (((Y.getD k []).map ints).set l (ints x)):=by unfold rows;rw[List.length_set,List.map_set]
    rw[e9];exact v5
  · have h5:∀i∈i0++(i1++b::(il++(ia++ir))),a≤i∧i<m:=h4
    simp only[List.nodup_append,List.nodup_cons,List.mem_append,List.mem_cons]at h3 h5 w3 w5 w6 ⊢
    grind
  intro i hi
  simp only[List.mem_append,List.mem_cons]at hi h4 w3
  grind
theorem PgO.blk {a m b c b' c' p q:Nat} {H:HP} {r P B:AV} {os:List Int} {X:List (List Int)} {Y:List (List (List Int))} {cs cs':List AV} (h:PgO a m H r P B os X Y) (hP:LC H b c P cs) (hB:LC H b' c' B cs') (hp:bk P=p+1) {k:Nat} (hk:k<cs'.length) (hq:bk (cs'.getD k .j)=q+1):p≠q∧bk B≠p+1∧bk B≠q+1:=by
  obtain⟨i0,i1,i2,⟨h0,h1,h2⟩,h3,h4⟩:=h
  have g1:=h1.bk_in hP hp
  unfold cubes at h2
  rcases h2.lc hB with ⟨_,rfl,_⟩|⟨b1,ids',rfl,g2,g3,rfl,g4⟩
  · simp at hk
  obtain⟨il,ia,ir,rfl,s1,s2,s3⟩:=g4.cut (a:=k) hk
  have hqi:q∈ia:=by
    generalize hc:cs'.getD k .j=C at s2 hq
    generalize (Y.map rows).getD k .j=Z at s2
    cases s2 with
    |leaf _ hf hn=>cases C<;>simp only[bk]at hq<;>first|omega|(cases hn)
    |nl=>cases hq
    |h id cs ts ids' g1 g2=>simp only[bk]at hq;simp;omega
    |q=>cases hq
    |g=>cases hq
    |t=>cases hq
  simp only[bk];simp only[List.nodup_append,List.nodup_cons,List.mem_append,List.mem_cons,not_or]at h3
  refine⟨?_,?_,?_⟩<;>grind
theorem PgW.setP {a m k:Nat} {H:HP} {r P B:AV} {os:List Int} {X:List (List Int)} {Y:List (List (List Int))} {cp cb:List AV} (h:PgW a m H r P B os X Y cp cb) (hk:k<X.length):∃p,P= .h p 0 X.length∧H p=some cp∧cp.length=X.length∧(a≤p∧p<m)∧
    ∀(H':HP) (r1:AV) (x:List Int) (is:List Nat) (a' m':Nat),Ow H' r1 (ints x) is→is.Nodup→(∀i∈is,(i<a∨m≤i)∧a'≤i∧i<m')→H' p=some (splice cp k [r1])→(∀i,a≤i→i<m→i≠p→H' i=H i)→m≤m'→a'≤a→PgW a' m' H' r P B os (X.set k x) Y (splice cp k [r1]) cb:=by
  obtain⟨h1,h2,h3,h4⟩:=h
  obtain⟨p,rfl,hp,hl,p1,p2⟩:=h1.rowP h2 (by omega)
  refine⟨p,rfl,hp,hl,⟨p1,p2⟩,fun H' r1 x is a' m' g1 g2 g3 g4 g5 g6 g7=>⟨h1.setP hp (by omega) rfl g1 g2 g3 g4 g5 g6 g7,?_,?_,h4⟩⟩
  · exact .mk g4 (by rw[splice_len (by simp;omega)];exact hl.symm) (by omega) (by omega)
  have hne:bk B≠p+1:=by
    have:=h1.ne h2 h3
    rw[show bk (.h p 0 X.length)=p+1 from rfl]at this
    omega
  exact(h3.keep1 (fun i hi=>g5 i (by have:=h3.bd;omega) (by have:=h3.bd;omega) (fun e=>hne (by rw[←e];exact hi)))).wide g7 g6
theorem PgW.setB {a m k l:Nat} {H:HP} {r P B:AV} {os:List Int} {X:List (List Int)} {Y:List (List (List Int))} {cp cb:List AV} (h:PgW a m H r P B os X Y cp cb) (hk:k<Y.length) (hl:l<(Y.getD k []).length):∃b q ds,B= .h b 0 Y.length∧H b=some cb∧cb.length=Y.length∧(a≤b∧b<m)∧cb.getD k .j= .h q 0 (Y.getD k []).length∧H q=some ds∧ds.length=(Y.getD k []).length∧(a≤q∧q<m)∧q≠b∧
    ∀(H':HP) (r1:AV) (x:List Int) (is:List Nat) (a' m':Nat),Ow H' r1 (ints x) is→is.Nodup→(∀i∈is,(i<a∨m≤i)∧a'≤i∧i<m')→H' q=some (splice ds l [r1])→(∀i,a≤i→i<m→i≠q→H' i=H i)→m≤m'→a'≤a→PgW a' m' H' r P B os X (Y.set k ((Y.getD k []).set l x)) cp cb:=by
  obtain⟨h1,h2,h3,h4⟩:=h
  have hlen:k<cb.length:=by
    obtain⟨i0,i1,i2,⟨g0,g1,g2⟩,_⟩:=id h1
    rw[cubes_v]at g2
    rcases g2.lc h3 with ⟨_,_,e,_⟩|⟨_,_,_,_,e,_⟩<;>rw[List.length_map]at e<;>omega
  have hcell:isH (cb.getD k .j)=true:=h4 _ (by rw[List.getD_eq_getElem?_getD,List.getElem?_eq_getElem hlen];exact List.getElem_mem _)
  obtain⟨b,q,ds,rfl,hb,hcl,b12,hq,hd,hdl,q12,hqb⟩:=h1.rowB h3 hk (by omega) hcell
  refine⟨b,q,ds,rfl,hb,hcl,b12,hq,hd,hdl,q12,hqb,fun H' r1 x is a' m' g1 g2 g3 g4 g5 g6 g7=>⟨h1.setB hb hlen rfl hq hd (by omega) g1 g2 g3 g4 g5 g6 g7,?_,?_,h4⟩⟩
  · refine(h2.keep1 (fun i hi=>g5 i (by have:=h2.bd;omega) (by have:=h2.bd;omega) (fun e=>?_))).wide g7 g6
    have:=h1.blk h2 h3 hi hlen (q:=q) (by rw[hq];rfl)
    exact this.1 e
  exact .mk (by rw[g5 b b12.1 b12.2 (fun e=>hqb e.symm)];exact hb) hcl.symm (by omega) (by omega)
end Go.Proofs.YtghmeeifjeafmaaGreat
