import Derived.Test.YtghmeeifjeafmaaGreatZ35
import Derived.Test.YtghmeeifjeafmaaGreatZ37
set_option linter.unusedVariables false
set_option linter.unusedSimpArgs false
namespace Go.Proofs.YtghmeeifjeafmaaGreat
open Nat (reduceAdd reduceSub reduceGT reduceEqDiff reduceMul)
theorem one_lrw (W:List (List Int)):(∀z∈ [rows W],one z=true)=True:=one_list rfl
set_option maxHeartbeats 1000000 in
theorem impl_copyPresentation_ok (os:List Int) (X:List (List Int)) (Y:List (List (List Int))) (h0:os.length≤1048576) (h1:rowslen X) (h2:cubeslen Y):ACp Tryz.prog 24 [prsP os X Y] (prs os X Y):=by
 have hcl:=h2.n
 refine ACp.introV envOk Tryz.func24 rfl (by kernel_rfl) Tryz.ntmps24 Tryz.results24 ((prs_nr _ _ _)) (fun nx cX=>?_)
 refine AW.sr envOk (fun N hN=>?_);simp-dsimp-implicitDefEqProofs (disch:=omega)only[go_sem,prs,prsP,cubes,gd_c];refine hN _ ?_;try clear hN N
 refine AW.seq (fun N hN=>?_);refine AW.drawL envOk (by kernel_rfl) 12 (by kernel_rfl) ?_
 simp-dsimp-implicitDefEqProofs (disch:=omega)only[hr_nil,hr_one,hr_if,List.take_succ_cons,List.take_zero,List.drop_succ_cons,List.drop_zero,List.take_nil,List.drop_nil,go_sem,undef,prs,prsP,cubes,gd_c,w64];refine⟨_,.of (clone_p os h0),?_⟩
 try simp-dsimp-implicitDefEqProofs (disch:=omega)only[go_sem,prs,prsP,cubes,gd_c]
 refine⟨_,.of (impl_copyRows_ok X h1),?_⟩
 try simp-dsimp-implicitDefEqProofs (disch:=omega)only[go_sem,prs,prsP,cubes,gd_c]
 refine hN _ ?_;try clear hN N
 refine AW.seq (fun N1 hN1=>?_);refine AW.sr envOk (fun N hN=>?_);simp-dsimp-implicitDefEqProofs (disch:=omega)only[go_sem,prs,prsP,cubes,gd_c];refine hN _ ?_;try clear hN N
 refine AW.block ?_;refine AW.nameH (fun G0 hG0=>?_);dsimp only at hG0
 have hx0:G0 nx=some [.nl,.nl,.nl]:=by rw[←hG0];simp(disch:=omega)only[upd_ne,upd_same]
 have hb0:G0 (nx+1+11)=some [ints os,rows X,.nl]:=by rw[←hG0];simp(disch:=omega)only[upd_ne,upd_same]
 clear hG0
 refine AW.loopN (α:=Nat×HP×AV) (fun x=>sl 35 [(2,.q nx 0),(3,.q (nx+1+11) 0),(20,cubes Y),(21,.i .i64 Y.length),(22,.i .i64 x.1)]) (fun x=>x.2.1) (fun x m=>(x.1≤Y.length∧nx+14≤m)∧(x.2.1 (nx+1+11)=some [ints os,rows X,x.2.2]∧x.2.1 nx=some [.nl,.nl,.nl])∧LC x.2.1 (nx+14) m x.2.2 ((Y.take x.1).map rows)) (fun x=>Y.length-x.1) ((0,G0,.nl)) ?_ ?_ (fun _ _ h=>h) ?_
 ·exact⟨⟨by simp,by first|omega|(simp only;omega)|(dsimp only;omega)⟩,⟨hb0,hx0⟩,.nil⟩
 ·simp(disch:=omega) [wks,wkA,sl,cubes]
 skip
 rintro⟨k,G,L⟩ m ⟨⟨hk,hm⟩,⟨hb,hx⟩,hL⟩
 simp-dsimp-implicitDefEqProofs (disch:=omega)only[go_sem];dsimp only at hk hm hb hx hL ⊢
 have hLo:=hL.one
 have hLl:=hL.len
 have hLb:=hL.bd
 rw[List.length_map,List.length_take,Nat.min_eq_left hk]at hLl
 refine AW.sr envOk (fun N hN=>?_);simp-dsimp-implicitDefEqProofs (disch:=omega)only[go_sem,prs,prsP,cubes,gd_c];refine hN _ ?_;try clear hN N
 refine AW.seq (fun N2 hN2=>?_);refine AW.cond rfl (fun h1=>?_) (fun h1=>?_)
 ·try simp only[cn]at h1
  have hkl:k<Y.length:=by omega
  refine AW.skip ?_;simp only[thn,blk];refine hN2 _ ?_;try clear hN2 N2
  refine AW.seq (fun N3 hN3=>?_);refine AW.block ?_;refine AW.sr envOk (fun N hN=>?_);simp-dsimp-implicitDefEqProofs (disch:=omega)only[go_sem,prs,prsP,cubes,gd_c];refine hN _ ?_;try clear hN N
  refine AW.drawL envOk (by kernel_rfl) 5 (by kernel_rfl) ?_
  simp-dsimp-implicitDefEqProofs (disch:=omega)only[hr_nil,hr_one,hr_if,List.take_succ_cons,List.take_zero,List.drop_succ_cons,List.drop_zero,List.take_nil,List.drop_nil,go_sem,undef,prs,prsP,cubes,gd_c,w64,hb];refine⟨_,.of (impl_copyRows_ok (Y.getD k []) (getD_mem h2.v .nil k)),?_⟩
  try simp-dsimp-implicitDefEqProofs (disch:=(first|omega|((repeat refine LC.upd (by omega) ?_);assumption))) only[go_sem,prs,prsP,cubes,gd_c,hb,hLo,hLl,dl_ne,apst_LC (a:=nx+14) (b:=m) (L:=L) (cs:=(Y.take k).map rows),List.length_map,List.length_take,one_lrw,Nat.min_eq_left hk]
  refine hN3 _ ?_;try clear hN3 N3
  refine AW.nameH (fun G3 hG3=>?_);dsimp only at hG3
  refine AW.regionL envOk ?_;simp-dsimp-implicitDefEqProofs (disch:=omega)only[go_sem,prs,prsP,cubes,gd_c];refine⟨(k+1,G3,.h (m+1+3+5) 0 (k+1)),?_,fun _ _ h=>h,?_,?_⟩
  ·simp(disch:=omega) [wks,wkA,sl,w64,cubes,prs]<;>omega
  ·have hmk:LC G3 (nx+14) (m+1+3+8) (.h (m+1+3+5) 0 (k+1)) ((Y.take (k+1)).map rows):=LC.mk (by rw[←hG3,tk_s rows (by omega) (d:=[])];simp(disch:=omega)only[upd_ne,upd_same]) (by rw[List.length_map,List.length_take];omega) (by omega) (by omega)
   have hb9:G3 (nx+1+11)=some [ints os,rows X,.h (m+1+3+5) 0 (k+1)]:=by rw[←hG3];simp(disch:=omega)only[upd_same]
   have hx9:G3 nx=some [.nl,.nl,.nl]:=by rw[←hG3];simp(disch:=omega)only[upd_ne,dl_ne];exact hx
   first|exact⟨⟨by first|omega|(simp only;omega)|(dsimp only;omega),by first|omega|(simp only;omega)|(dsimp only;omega)⟩,⟨hb9,hx9⟩,hmk.wide (Nat.le_refl _) (by first|omega|(simp only;omega)|(dsimp only;omega))⟩|exact⟨by first|omega|(simp only;omega)|(dsimp only;omega),⟨hb9,hx9⟩,hmk.wide (Nat.le_refl _) (by first|omega|(simp only;omega)|(dsimp only;omega))⟩
  first|omega|(simp only;omega)
 try simp only[cn]at h1
 refine AW.exit ?_;simp only[thn,blk,if_true];refine hN1 _ ?_;try clear hN1 N1
 refine AW.sr envOk (fun N hN=>?_);simp-dsimp-implicitDefEqProofs (disch:=omega)only[go_sem,prs,prsP,cubes,gd_c,hb,hx,hLo];refine hN _ ?_;try clear hN N
 refine AW.ret ?_;simp-dsimp-implicitDefEqProofs (disch:=omega)only[go_sem];obtain rfl:k=Y.length:=by omega
 rw[List.take_length]at hL
 exact .g _ _ rfl fun q x y hx hy=>by
  match q,hx,hy with
  |0,hx,hy=>cases hx;cases hy;exact .refl _
  |1,hx,hy=>cases hx;cases hy;exact .refl _
  |2,hx,hy=>cases hx;cases hy;exact(hL.keep (fun i i1 i2=>upd_ne _ _ (by omega))).vwC
section
variable (os:List Int) (pw:List (List Int)) (cj:List (List (List Int))) (ot:List Int) (qw:List (List Int)) (dj:List (List (List Int)))
noncomputable def homF:Nat→List (List (List Int))
  |0=>[]
  |k+1=>if tf (hmQ os pw cj ot qw dj k)=true then homF k++[tupS ot (prd ot ot.length) os.length k]else homF k
theorem homF_len:∀k,((homF os pw cj ot qw dj k).length:Int)=cntF (hmQ os pw cj ot qw dj) k:=by
  intro k
  induction k with
  |zero=>rfl
  | succ k ih=>
    rw[homF,cntF]
    split
    · rw[List.length_append,List.length_singleton];omega
    exact ih
theorem homF_le:∀k,(homF os pw cj ot qw dj k).length≤k:=fun k=>by
  have h1:=homF_len os pw cj ot qw dj k
  have h2:=cntF_bd (p:=hmQ os pw cj ot qw dj) k
  omega
noncomputable def hmM:List (List (List Int))×Int:=if tf (grpP os pw cj∧grpP ot qw dj)=true then (if hmT os ot≤4096 then (homF os pw cj ot qw dj (hmT os ot).toNat,0)else ([],3))else ([],1)
theorem hmM_1 (h:¬(grpP os pw cj∧grpP ot qw dj)):hmM os pw cj ot qw dj=([],1):=by rw[hmM,tf_f h];rfl
theorem hmM_3 (h:grpP os pw cj∧grpP ot qw dj) (h2:¬hmT os ot≤4096):hmM os pw cj ot qw dj=([],3):=by rw[hmM,tf_t h,if_pos rfl,if_neg h2]
theorem hmM_0 (h:grpP os pw cj∧grpP ot qw dj) (h2:hmT os ot≤4096):hmM os pw cj ot qw dj=(homF os pw cj ot qw dj (hmT os ot).toNat,0):=by rw[hmM,tf_t h,if_pos rfl,if_pos h2]
def resCb (m:List (List (List Int))×Int):AV:= .t [cubes m.1,.i .i64 m.2]
theorem resCb_nr (m:List (List (List Int))×Int):NR (resCb m):=NR.ts (fun x hx=>by
  simp only[List.mem_cons,List.not_mem_nil,or_false]at hx
  rcases hx with rfl|rfl
  · exact cubes_nr _
  exact .i _ _)
set_option maxRecDepth 20000 in
set_option maxHeartbeats 2000000 in
theorem impl_homImages_ok (hl:prlen os pw cj) (hl2:prlen ot qw dj):ACp Tryz.prog 23 [prsP os pw cj,prsP ot qw dj] (resCb (hmM os pw cj ot qw dj)):=by
 have hlo:=hl.o
 have hlo2:=hl2.o
 refine ACp.introV envOk Tryz.func23 rfl (by kernel_rfl) Tryz.ntmps23 Tryz.results23 ((resCb_nr _)) (fun nx cX=>?_)
 refine AW.sr envOk (fun N hN=>?_);simp-dsimp-implicitDefEqProofs (disch:=omega)only[go_sem,prs,prsP,ints];refine hN _ ?_;try clear hN N
 refine AW.seq (fun N1 hN1=>?_);refine AW.sr envOk (fun N hN=>?_);simp-dsimp-implicitDefEqProofs (disch:=omega)only[go_sem,prs,prsP,ints];refine AC.pure (.of (impl_IsConsistent_ok os pw cj hl)) ?_;try simp-dsimp-implicitDefEqProofs (disch:=omega)only[go_sem,prs,prsP,ints]
 refine gopB.mk' (fun h1=>?_) (fun h1=>?_)
 ·try simp only[cn]at h1
  try simp-dsimp-implicitDefEqProofs (disch:=omega)only[go_sem,prs,prsP,ints]
  refine AC.pure (.of (impl_IsConsistent_ok ot qw dj hl2)) ?_;try simp-dsimp-implicitDefEqProofs (disch:=omega)only[go_sem,prs,prsP,ints]
  refine hN _ ?_;try clear hN N
  refine AW.cond rfl (fun h2=>?_) (fun h2=>?_)
  ·try simp only[cn]at h2
   refine AW.sr envOk (fun N hN=>?_);simp-dsimp-implicitDefEqProofs (disch:=omega)only[go_sem,prs,prsP,ints];refine hN _ ?_;try clear hN N
   refine AW.ret ?_;simp-dsimp-implicitDefEqProofs (disch:=omega)only[go_sem];rw[hmM_1 os pw cj ot qw dj (fun q=>h2 q.2)]
   exact Vw.t2 .nl
  try simp only[cn]at h2
  obtain⟨hp,hpc⟩:=h1
  obtain⟨hq,hqc⟩:=h2
  have hok:grpP os pw cj∧grpP ot qw dj:=⟨⟨hp,hpc⟩,hq,hqc⟩
  have hn6:=hp.1.1
  have hn7:=hq.1.1
  have hpr:=hq.2.1
  have hq1:=prd_pos hpr ot.length (Nat.le_refl _)
  have hq9:=hq.2.2.1
  have hor:=impl_orderOf_ok ot qw dj hq
  obtain⟨Nq,hN0⟩:∃Nq,prd ot ot.length=Nq:=⟨_,rfl⟩
  rw[hN0]at hor hq1 hq9
  have hT:hmT os ot=stq Nq os.length:=by unfold hmT;rw[hN0]
  have hh:∀k:Nat,hmQ os pw cj ot qw dj k=hldP (pc ot qw dj) (tupS ot Nq os.length k) (rels os pw cj):=fun k=>by unfold hmQ;rw[hN0]
  refine AW.skip ?_;simp only[thn,blk];refine hN1 _ ?_;try clear hN1 N1
  refine AW.sr envOk (fun N hN=>?_);simp-dsimp-implicitDefEqProofs (disch:=omega)only[go_sem,prs,prsP,ints];refine AC.pure (.of (hor)) ?_;try simp-dsimp-implicitDefEqProofs (disch:=omega)only[go_sem,prs,prsP,ints]
  refine hN _ ?_;try clear hN N
  refine AW.seq (fun N2 hN2=>?_);refine AW.sr envOk (fun N hN=>?_);simp-dsimp-implicitDefEqProofs (disch:=omega)only[go_sem,prs,prsP,ints];refine hN _ ?_;try clear hN N
  refine AW.block ?_;refine AW.loopN (α:=Nat) (fun x=>sl 86 [(0,prsP os pw cj),(1,prsP ot qw dj),(6,.i .i64 Nq),(7,.i .i64 (stq Nq x)),(32,.i .i64 os.length),(33,.i .i64 x)]) (fun _=>noH) (fun x m=>(x≤os.length∧nx≤m)∧stq Nq x≤4096) (fun x=>os.length-x) (0) ?_ ?_ (fun _ _ h=>h) ?_
  ·exact⟨⟨by omega,by first|omega|(simp only;omega)|(dsimp only;omega)⟩,by simp[stq]⟩
  ·simp(disch:=omega) [wks,wkA,sl,prsP,ints,rows,cubes,stq]
  skip
  rintro k m ⟨⟨hk,hm0⟩,hs⟩
  have hb:=stq_bd hq1 hq9 k
  simp only[prsP,ints];simp-dsimp-implicitDefEqProofs (disch:=omega)only[go_sem];refine AW.sr envOk (fun N hN=>?_);simp-dsimp-implicitDefEqProofs (disch:=omega)only[go_sem,prs,prsP,ints];refine hN _ ?_;try clear hN N
  refine AW.seq (fun N3 hN3=>?_);refine AW.cond rfl (fun h3=>?_) (fun h3=>?_)
  ·try simp only[cn]at h3
   have hmb:=mul_bd hb.1 hs hq1 hq9
   have hs1:stq Nq (k+1)=stq Nq k*Nq:=by rw[stq,if_pos hs]
   refine AW.skip ?_;simp only[thn,blk];refine hN3 _ ?_;try clear hN3 N3
   refine AW.seq (fun N4 hN4=>?_);refine AW.block ?_;refine AW.sr envOk (fun N hN=>?_);simp-dsimp-implicitDefEqProofs (disch:=omega)only[go_sem,prs,prsP,ints];refine hN _ ?_;try clear hN N
   refine AW.sr envOk (fun N hN=>?_);simp-dsimp-implicitDefEqProofs (disch:=omega)only[go_sem,prs,prsP,ints];refine hN _ ?_;try clear hN N
   refine AW.cond rfl (fun h4=>?_) (fun h4=>?_)
   ·try simp only[cn]at h4
    refine AW.sr envOk (fun N hN=>?_);simp-dsimp-implicitDefEqProofs (disch:=omega)only[go_sem,prs,prsP,ints];refine hN _ ?_;try clear hN N
    refine AW.ret ?_;simp-dsimp-implicitDefEqProofs (disch:=omega)only[go_sem];have hst:=stq_stay (N:=Nq) (k:=k+1) (by rw[hs1];omega) (os.length-(k+1))
    rw[show k+1+(os.length-(k+1))=os.length by omega,hs1]at hst
    rw[hmM_3 os pw cj ot qw dj hok (by rw[hT,hst];omega)]
    exact Vw.t2 .nl
   try simp only[cn]at h4
   refine AW.skip ?_;simp only[thn,blk];refine hN4 _ ?_;try clear hN4 N4
   refine AW.regionL envOk ?_;simp-dsimp-implicitDefEqProofs (disch:=omega)only[go_sem,prs,prsP,ints];refine⟨k+1,?_,fun _ _ h=>h,?_,?_⟩
   ·simp(disch:=omega) [wks,wkA,sl,prsP,ints,rows,cubes,hs1]
   ·first|exact⟨⟨by omega,by first|omega|(simp only;omega)|(dsimp only;omega)⟩,by rw[hs1];omega⟩|exact⟨by omega,by rw[hs1];omega⟩
   first|omega|(simp only;omega)
  try simp only[cn]at h3
  have hke:k=os.length:=by omega
  subst hke
  have hrn:=(rels_rl hp).n
  have hrl:=rels_rl hp
  have hrw:=rels_word hp
  have hres:ACp Tryz.prog 32 [prs os pw cj] (.t [rows (rels os pw cj),.i .i64 0]):=by
   have:=(impl_PresentationRelators_ok os pw cj hl).pure
   rw[tf_t hp]at this
   exact this
  obtain⟨rs,hrs⟩:∃rs,rels os pw cj=rs:=⟨_,rfl⟩
  rw[hrs]at hres hrn hrl hrw
  rw[hrs]at hh
  obtain⟨tt,htt⟩:∃tt,stq Nq os.length=tt:=⟨_,rfl⟩
  rw[htt]at hb hs hT ⊢
  refine AW.exit ?_;simp only[thn,blk,if_true];refine hN2 _ ?_;try clear hN2 N2
  refine AW.sr envOk (fun N hN=>?_);simp-dsimp-implicitDefEqProofs (disch:=omega)only[go_sem,prs,prsP,ints];refine AC.pure (.of (hres)) ?_;try simp-dsimp-implicitDefEqProofs (disch:=omega)only[go_sem,prs,prsP,ints]
  refine hN _ ?_;try clear hN N
  refine AW.sr envOk (fun N hN=>?_);simp-dsimp-implicitDefEqProofs (disch:=omega)only[go_sem,prs,prsP,ints];refine hN _ ?_;try clear hN N
  refine AW.seq (fun N5 hN5=>?_);refine AW.sr envOk (fun N hN=>?_);simp-dsimp-implicitDefEqProofs (disch:=omega)only[go_sem,prs,prsP,ints];refine hN _ ?_;try clear hN N
  refine AW.block ?_;refine AW.loopN (α:=Nat×HP×AV) (fun x=>sl 86 [(0,prsP os pw cj),(1,prsP ot qw dj),(6,.i .i64 Nq),(8,rows rs),(10,x.2.2),(48,.i .i64 tt),(49,.i .i64 x.1)]) (fun x=>x.2.1) (fun x m=>(x.1≤tt.toNat∧nx≤m)∧LC x.2.1 nx m x.2.2 ((homF os pw cj ot qw dj x.1).map rows)) (fun x=>tt.toNat-x.1) ((0,noH,.nl)) ?_ ?_ (fun _ _ h=>h) ?_
  ·exact⟨⟨by omega,by first|omega|(simp only;omega)|(dsimp only;omega)⟩,.nil⟩
  ·simp(disch:=omega) [wks,wkA,sl,prsP,ints,rows,cubes]
  skip
  rintro⟨t,G,L⟩ m ⟨⟨ht,hm⟩,hL⟩
  simp-dsimp-implicitDefEqProofs (disch:=omega)only[go_sem];dsimp only at ht hm hL ⊢
  have hLo:=hL.one
  have hLl:=hL.len
  have hLb:=hL.bd
  have hhl:=homF_le os pw cj ot qw dj t
  rw[List.length_map]at hLl
  obtain⟨mm,hmm⟩:∃mm,mm=m:=⟨m,rfl⟩
  subst hmm
  refine AW.sr envOk (fun N hN=>?_);simp-dsimp-implicitDefEqProofs (disch:=omega)only[go_sem,prs,prsP,ints];refine hN _ ?_;try clear hN N
  refine AW.seq (fun N6 hN6=>?_);refine AW.cond rfl (fun h5=>?_) (fun h5=>?_)
  ·try simp only[cn]at h5
   refine AW.skip ?_;simp only[thn,blk];refine hN6 _ ?_;try clear hN6 N6
   refine AW.seq (fun N7 hN7=>?_);refine AW.block ?_;refine AW.sr envOk (fun N hN=>?_);simp-dsimp-implicitDefEqProofs (disch:=omega)only[go_sem,prs,prsP,ints];refine hN _ ?_;try clear hN N
   refine AW.sr envOk (fun N hN=>?_);simp-dsimp-implicitDefEqProofs (disch:=omega)only[go_sem,prs,prsP,ints];refine hN _ ?_;try clear hN N
   refine AW.seq (fun N8 hN8=>?_);refine AW.sr envOk (fun N hN=>?_);simp-dsimp-implicitDefEqProofs (disch:=omega)only[go_sem,prs,prsP,ints];refine hN _ ?_;try clear hN N
   refine AW.block ?_;refine AW.loopN (α:=Nat) (fun x=>sl 86 [(0,prsP os pw cj),(1,prsP ot qw dj),(6,.i .i64 Nq),(8,rows rs),(10,L),(11,.i .i64 (dvN Nq t x)),(12,.h (mm+1+2+5) 0 os.length),(13,.i .i64 ((os.length:Int)-1-x)),(48,.i .i64 tt),(49,.i .i64 t)]) (fun x=>upd G (mm+1+2+5) (some (pcz os.length (fun i=>decide (os.length≤i+x)) (fun i=>atR ot ((dvN Nq t (os.length-1-i)).tmod Nq))))) (fun x m=>x≤os.length∧mm+10≤m) (fun x=>os.length-x) (0) ?_ ?_ (by rw[pcs_none (fun i hi=>by simp;omega)];exact Le.refl _) ?_
   ·exact⟨by omega,by first|omega|(simp only;omega)|(dsimp only;omega)⟩
   ·simp(disch:=omega) [wks,wkA,sl,prsP,ints,rows,cubes,dvN]
   skip
   rintro d m3 ⟨hd,hm3⟩
   simp-dsimp-implicitDefEqProofs (disch:=omega)only[go_sem];refine AW.seq (fun N9 hN9=>?_);refine AW.sr envOk (fun N hN=>?_);simp-dsimp-implicitDefEqProofs (disch:=omega)only[go_sem,prs,prsP,ints];refine hN _ ?_;try clear hN N
   refine AW.cond rfl (fun h6=>?_) (fun h6=>?_)
   ·try simp only[cn]at h6
    have e1:((os.length:Int)-1-d).toNat=os.length-1-d:=by omega
    have hz:(Nq=0)=False:=eq_false (by omega)
    have hb3:=dvN_bd (num:=(t:Int)) (by omega) hq1 d
    have hsd:(dvN Nq t d).tdiv Nq=dvN Nq t (d+1):=rfl
    have hb4:=dvN_bd (num:=(t:Int)) (by omega) hq1 (d+1)
    have hr:0≤(dvN Nq t d).tmod Nq∧(dvN Nq t d).tmod Nq≤1048576:=by
     rw[Int.tmod_eq_emod_of_nonneg hb3.1]
     have:=Int.emod_lt_of_pos (dvN Nq t d) (show 0<Nq by omega)
     have:=Int.emod_nonneg (dvN Nq t d) (show Nq≠0 by omega)
     omega
    have hg:splice (pcz os.length (fun i=>decide (os.length≤i+d)) (fun i=>atR ot ((dvN Nq t (os.length-1-i)).tmod Nq))) (os.length-1-d) [ints (atR ot ((dvN Nq t d).tmod Nq))]=pcz os.length (fun i=>decide (os.length≤i+(d+1))) (fun i=>atR ot ((dvN Nq t (os.length-1-i)).tmod Nq)):=by
     have:=pcs_set (c:=os.length) (p:=fun i=>decide (os.length≤i+d)) (q:=fun i=>decide (os.length≤i+(d+1))) (f:=fun i=>atR ot ((dvN Nq t (os.length-1-i)).tmod Nq)) (i:=os.length-1-d) (by omega) (by simp;omega) (fun j hj=>by simp;omega)
     simp only[show os.length-1-(os.length-1-d)=d by omega]at this
     exact this
    refine AW.skip ?_;simp only[thn,blk];refine hN9 _ ?_;try clear hN9 N9
    refine AW.seq (fun N10 hN10=>?_);refine AW.block ?_;refine AW.sr envOk (fun N hN=>?_);simp-dsimp-implicitDefEqProofs (disch:=omega)only[go_sem,prs,prsP,ints,e1,hz,not_false_eq_true,true_and,hg];refine AC.pure (.of (atR_vi▸impl_elementAt_ok ot qw dj hq _ hr.1 hr.2)) ?_;try simp-dsimp-implicitDefEqProofs (disch:=omega)only[go_sem,prs,prsP,e1,hg,pcz_len]
    refine hN _ ?_;try clear hN N
    refine AW.regionL envOk ?_;simp-dsimp-implicitDefEqProofs (disch:=omega)only[go_sem,prs,prsP,ints,hz,not_false_eq_true,true_and,hsd];refine hN10 _ ?_;try clear hN10 N10
    refine AW.regionL envOk ?_;simp-dsimp-implicitDefEqProofs (disch:=omega)only[go_sem,prs,prsP,ints];refine⟨d+1,?_,fun _ _ h=>h,?_,?_⟩
    ·simp(disch:=omega) [wks,wkA,sl,prsP,ints,rows,cubes,hsd]<;>omega
    ·exact⟨by first|omega|(simp only;omega)|(dsimp only;omega),by first|omega|(simp only;omega)|(dsimp only;omega)⟩
    first|omega|(simp only;omega)
   try simp only[cn]at h6
   have hdn:d=os.length:=by omega
   have e9:AV.v os.length ((tupS ot Nq os.length t).map ints)=rows (tupS ot Nq os.length t):=by unfold rows;rw[tup_len]
   refine AW.exit ?_;simp only[thn,blk,if_true];refine hN8 _ ?_;try clear hN8 N8
   refine AW.freeze 12 (mm+1+2+5) os.length ((tupS ot Nq os.length t).map ints) rfl (by dsimp only;rw[upd_same,hdn,pcs_all (fun i hi=>by simp)];rfl) (by rw[List.length_map,tup_len]) ?_
   rw[e9]
   simp-dsimp-implicitDefEqProofs (disch:=omega)only[go_sem];refine AW.sr envOk (fun N hN=>?_);simp-dsimp-implicitDefEqProofs (disch:=omega)only[go_sem,prs,prsP,ints];refine AC.pure (.of (impl_respects_ok rs ot qw dj hq hqc (tupS ot Nq os.length t) (tupS_ex hpr (by omega) hq1) (by rw[tup_len];omega) hrl (fun j hj=>by rw[tup_len];exact hrw j hj))) ?_
   try simp-dsimp-implicitDefEqProofs (disch:=omega)only[go_sem,prs,prsP,ints]
   refine hN _ ?_;try clear hN N
   refine AW.cond rfl (fun h7=>?_) (fun h7=>?_)
   ·try simp only[cn]at h7
    have hhf:homF os pw cj ot qw dj (t+1)=homF os pw cj ot qw dj t++[tupS ot Nq os.length t]:=by rw[homF,if_pos (tf_t (by rw[hh];exact h7)),hN0]
    refine AW.regionL envOk ?_;simp-dsimp-implicitDefEqProofs (disch:=(first|omega|((repeat refine LC.upd (by omega) ?_);assumption))) only[go_sem,prs,prsP,ints,hLo,hLl,one_lrw,apst_LC (a:=nx) (b:=mm) (L:=L) (cs:=(homF os pw cj ot qw dj t).map rows),List.length_map]
    refine hN7 _ ?_;try clear hN7 N7
    refine AW.nameH (fun G9 hG9=>?_);dsimp only at hG9
    refine AW.regionL envOk ?_;simp-dsimp-implicitDefEqProofs (disch:=omega)only[go_sem,prs,prsP,ints];refine⟨(t+1,G9,.h (m3+2+4+3) 0 ((homF os pw cj ot qw dj t).length+1)),?_,fun _ _ h=>h,?_,?_⟩
    ·simp(disch:=omega) [wks,wkA,sl,w64,prs,prsP,ints]<;>omega
    ·have hmk:LC G9 nx (m3+2+4+5) (.h (m3+2+4+3) 0 ((homF os pw cj ot qw dj t).length+1)) ((homF os pw cj ot qw dj (t+1)).map rows):=LC.mk (by rw[←hG9,hhf,List.map_append];simp(disch:=omega)only[upd_ne,upd_same];rfl) (by rw[hhf];simp) (by omega) (by omega)
     first|exact⟨⟨by first|omega|(simp only;omega)|(dsimp only;omega),by first|omega|(simp only;omega)|(dsimp only;omega)⟩,hmk.wide (Nat.le_refl _) (by first|omega|(simp only;omega)|(dsimp only;omega))⟩|exact⟨by first|omega|(simp only;omega)|(dsimp only;omega),hmk.wide (Nat.le_refl _) (by first|omega|(simp only;omega)|(dsimp only;omega))⟩
    first|omega|(simp only;omega)
   try simp only[cn]at h7
   have hhf:homF os pw cj ot qw dj (t+1)=homF os pw cj ot qw dj t:=by rw[homF,if_neg (by rw[tf_f (by rw[hh];exact h7)];simp)]
   refine AW.skip ?_;simp only[thn,blk];refine hN7 _ ?_;try clear hN7 N7
   refine AW.nameH (fun G9 hG9=>?_);dsimp only at hG9
   refine AW.regionL envOk ?_;simp-dsimp-implicitDefEqProofs (disch:=omega)only[go_sem,prs,prsP,ints];refine⟨(t+1,G9,L),?_,fun _ _ h=>h,?_,?_⟩
   ·simp(disch:=omega) [wks,wkA,sl,w64,prs,prsP,ints]<;>omega
   ·have hL9:LC G9 nx mm L ((homF os pw cj ot qw dj (t+1)).map rows):=by rw[hhf,←hG9];exact hL.keep (fun i i1 i2=>by simp(disch:=omega)only[upd_ne])
    first|exact⟨⟨by first|omega|(simp only;omega)|(dsimp only;omega),by first|omega|(simp only;omega)|(dsimp only;omega)⟩,hL9.wide (Nat.le_refl _) (by first|omega|(simp only;omega)|(dsimp only;omega))⟩|exact⟨by first|omega|(simp only;omega)|(dsimp only;omega),hL9.wide (Nat.le_refl _) (by first|omega|(simp only;omega)|(dsimp only;omega))⟩
   first|omega|(simp only;omega)
  try simp only[cn]at h5
  refine AW.exit ?_;simp only[thn,blk,if_true];refine hN5 _ ?_;try clear hN5 N5
  refine AW.sr envOk (fun N hN=>?_);simp-dsimp-implicitDefEqProofs (disch:=omega)only[go_sem,prs,prsP,ints];refine hN _ ?_;try clear hN N
  refine AW.ret ?_;simp-dsimp-implicitDefEqProofs (disch:=omega)only[go_sem];rw[hmM_0 os pw cj ot qw dj hok (by rw[hT];omega),hT,show tt.toNat=t by omega]
  exact Vw.t2 (hL.vwC)
 try simp only[cn]at h1
 try simp-dsimp-implicitDefEqProofs (disch:=omega)only[go_sem,prs,prsP,ints]
 refine hN _ ?_;try clear hN N
 refine AW.condT rfl ?_;refine AW.sr envOk (fun N hN=>?_);simp-dsimp-implicitDefEqProofs (disch:=omega)only[go_sem,prs,prsP,ints];refine hN _ ?_;try clear hN N
 refine AW.ret ?_;simp-dsimp-implicitDefEqProofs (disch:=omega)only[go_sem];rw[hmM_1 os pw cj ot qw dj (fun q=>h1 q.1)]
 exact Vw.t2 .nl
end
end Go.Proofs.YtghmeeifjeafmaaGreat
