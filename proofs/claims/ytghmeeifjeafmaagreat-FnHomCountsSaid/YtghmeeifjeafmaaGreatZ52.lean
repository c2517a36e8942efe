import Derived.Test.YtghmeeifjeafmaaGreatZ49
import Derived.Test.YtghmeeifjeafmaaGreatZ51
set_option linter.unusedVariables false
set_option linter.unusedSimpArgs false
namespace Go.Proofs.YtghmeeifjeafmaaGreat
open Nat (reduceAdd reduceSub reduceGT reduceEqDiff reduceMul)
theorem laws_big_ok (bs:List Int) (hb:bs.length≤9223372036854775807):ACp Tryz.prog 5 [byts bs] (.b (decide ((bs.length:Int)>4096))):=by
 refine ACp.intro' envOk Tryz.func5 rfl (by kernel_rfl) Tryz.ntmps5 Tryz.results5 (.b _) (fun nx cX=>?_)
 refine AW.sr envOk (fun N hN=>?_);simp-dsimp-implicitDefEqProofs (disch:=omega)only[go_sem,byts];refine hN _ ?_;try clear hN N
 refine AW.sr envOk (fun N hN=>?_);simp-dsimp-implicitDefEqProofs (disch:=omega)only[go_sem,byts];refine hN _ ?_;try clear hN N
 refine AW.ret ?_;simp-dsimp-implicitDefEqProofs (disch:=omega)only[go_sem];try rfl
theorem laws_likeInts_e (a:List Int) (ha:a.length≤1048576):ACp Tryz.prog 30 [ints a,ints a] (.b true):=by
 refine ACp.intro' envOk Tryz.func30 rfl (by kernel_rfl) Tryz.ntmps30 Tryz.results30 (.b _) (fun nx cX=>?_)
 refine AW.sr envOk (fun N hN=>?_);simp-dsimp-implicitDefEqProofs (disch:=omega)only[go_sem,ints,gd_i,bne_self_eq_false];refine hN _ ?_;try clear hN N
 refine AW.seq (fun N1 hN1=>?_);refine AW.sr envOk (fun N hN=>?_);simp-dsimp-implicitDefEqProofs (disch:=omega)only[go_sem,ints,gd_i,bne_self_eq_false];refine hN _ ?_;try clear hN N
 refine AW.condF rfl ?_;refine AW.skip ?_;simp only[thn,blk];refine hN1 _ ?_;try clear hN1 N1
 refine AW.seq (fun N2 hN2=>?_);refine AW.sr envOk (fun N hN=>?_);simp-dsimp-implicitDefEqProofs (disch:=omega)only[go_sem,ints,gd_i,bne_self_eq_false];refine hN _ ?_;try clear hN N
 refine AW.block ?_;refine AW.loopN (α:=Nat) (fun x=>sl 26 [(0,ints a),(1,ints a),(5,.i .i64 x)]) (fun _=>noH) (fun x m=>x≤a.length) (fun x=>a.length-x) (0) ?_ ?_ (fun _ _ h=>h) ?_
 ·omega
 ·simp(disch:=omega) [wks,wkA,sl,w64,ints,rows,cubes,ints,gd_i,w64,bne_self_eq_false]<;>omega
 skip
 rintro k m hk
 simp-dsimp-implicitDefEqProofs (disch:=omega)only[go_sem];refine AW.seq (fun N3 hN3=>?_);refine AW.sr envOk (fun N hN=>?_);simp-dsimp-implicitDefEqProofs (disch:=omega)only[go_sem,ints,gd_i,bne_self_eq_false];refine hN _ ?_;try clear hN N
 refine AW.cond rfl (fun h1=>?_) (fun h1=>?_)
 ·try simp only[cn]at h1
  refine AW.skip ?_;simp only[thn,blk];refine hN3 _ ?_;try clear hN3 N3
  refine AW.seq (fun N4 hN4=>?_);refine AW.block ?_;refine AW.seq (fun N hN=>?_);refine AW.drawF envOk (by kernel_rfl) [true,true,true,true,true,true,true,true,true] (by kernel_rfl) ?_
  simp-dsimp-implicitDefEqProofs (disch:=omega)only[go_sem,ints,gd_i,bne_self_eq_false];refine hN _ ?_;try clear hN N
  refine AW.condF rfl ?_;refine AW.skip ?_;simp only[thn,blk];refine hN4 _ ?_;try clear hN4 N4
  refine AW.regionL envOk ?_;simp-dsimp-implicitDefEqProofs (disch:=omega)only[go_sem,ints,gd_i,bne_self_eq_false];refine⟨k+1,?_,fun _ _ h=>h,?_,?_⟩
  ·simp(disch:=omega) [wks,wkA,sl,w64,ints,rows,cubes,ints,gd_i,w64,bne_self_eq_false]<;>omega
  ·omega
  first|omega|(simp only;omega)
 try simp only[cn]at h1
 refine AW.exit ?_;simp only[thn,blk,if_true];refine hN2 _ ?_;try clear hN2 N2
 refine AW.sr envOk (fun N hN=>?_);simp-dsimp-implicitDefEqProofs (disch:=omega)only[go_sem,ints,gd_i,bne_self_eq_false];refine hN _ ?_;try clear hN N
 refine AW.ret ?_;simp-dsimp-implicitDefEqProofs (disch:=omega)only[go_sem];all_goals rfl
theorem laws_like29_e (a:List (List Int)) (ha:rowslen a):ACp Tryz.prog 10 [rows a,rows a] (.b true):=by
 have han:=ha.n
 refine ACp.intro' envOk Tryz.func10 rfl (by kernel_rfl) Tryz.ntmps10 Tryz.results10 (.b _) (fun nx cX=>?_)
 refine AW.sr envOk (fun N hN=>?_);simp-dsimp-implicitDefEqProofs (disch:=omega)only[go_sem,rows,gd_r,bne_self_eq_false];refine hN _ ?_;try clear hN N
 refine AW.seq (fun N1 hN1=>?_);refine AW.sr envOk (fun N hN=>?_);simp-dsimp-implicitDefEqProofs (disch:=omega)only[go_sem,rows,gd_r,bne_self_eq_false];refine hN _ ?_;try clear hN N
 refine AW.condF rfl ?_;refine AW.skip ?_;simp only[thn,blk];refine hN1 _ ?_;try clear hN1 N1
 refine AW.seq (fun N2 hN2=>?_);refine AW.sr envOk (fun N hN=>?_);simp-dsimp-implicitDefEqProofs (disch:=omega)only[go_sem,rows,gd_r,bne_self_eq_false];refine hN _ ?_;try clear hN N
 refine AW.block ?_;refine AW.loopN (α:=Nat) (fun x=>sl 27 [(0,rows a),(1,rows a),(5,.i .i64 x)]) (fun _=>noH) (fun x m=>x≤a.length) (fun x=>a.length-x) (0) ?_ ?_ (by intro d cs hd;cases hd) ?_
 ·omega
 ·simp(disch:=omega) [wks,wkA,sl,w64,ints,rows,cubes,rows,gd_r,w64,bne_self_eq_false]<;>omega
 skip
 rintro k m hk
 simp-dsimp-implicitDefEqProofs (disch:=omega)only[go_sem];refine AW.seq (fun N3 hN3=>?_);refine AW.sr envOk (fun N hN=>?_);simp-dsimp-implicitDefEqProofs (disch:=omega)only[go_sem,rows,gd_r,bne_self_eq_false];refine hN _ ?_;try clear hN N
 refine AW.cond rfl (fun h1=>?_) (fun h1=>?_)
 ·try simp only[cn]at h1
  refine AW.skip ?_;simp only[thn,blk];refine hN3 _ ?_;try clear hN3 N3
  refine AW.seq (fun N4 hN4=>?_);refine AW.block ?_;refine AW.seq (fun N hN=>?_);refine AW.drawF envOk (by kernel_rfl) [true,true,true,true,true,true,true,true,false,false] (by kernel_rfl) ?_
  simp-dsimp-implicitDefEqProofs (disch:=omega)only[go_sem,rows,gd_r,bne_self_eq_false];refine AC.pure (.of (laws_likeInts_e (a.getD k []) (getD_mem ha.v (by simp) k))) ?_;try simp-dsimp-implicitDefEqProofs (disch:=omega)only[go_sem,rows,gd_r,bne_self_eq_false]
  refine hN _ ?_;try clear hN N
  refine AW.condF rfl ?_;refine AW.skip ?_;simp only[thn,blk];refine hN4 _ ?_;try clear hN4 N4
  refine AW.regionL envOk ?_;simp-dsimp-implicitDefEqProofs (disch:=omega)only[go_sem,rows,gd_r,bne_self_eq_false];refine⟨k+1,?_,fun _ _ h=>h,?_,?_⟩
  ·simp(disch:=omega) [wks,wkA,sl,w64,ints,rows,cubes,rows,gd_r,w64,bne_self_eq_false]<;>omega
  ·omega
  first|omega|(simp only;omega)
 try simp only[cn]at h1
 refine AW.exit ?_;simp only[thn,blk,if_true];refine hN2 _ ?_;try clear hN2 N2
 refine AW.sr envOk (fun N hN=>?_);simp-dsimp-implicitDefEqProofs (disch:=omega)only[go_sem,rows,gd_r,bne_self_eq_false];refine hN _ ?_;try clear hN N
 refine AW.ret ?_;simp-dsimp-implicitDefEqProofs (disch:=omega)only[go_sem];all_goals rfl
section
variable (os:List Int) (pw:List (List Int)) (cj:List (List (List Int))) (ot:List Int) (qw:List (List Int)) (dj:List (List (List Int)))
theorem homF_mem:∀k,∀W∈homF os pw cj ot qw dj k,∃j:Nat,W=tupS ot (prd ot ot.length) os.length j∧hmQ os pw cj ot qw dj j:=by
  intro k
  induction k with
  |zero=>intro W hW;simp[homF]at hW
  | succ k ih=>
    intro W hW
    rw[homF]at hW
    split at hW
    · rename_i h
      rcases List.mem_append.1 hW with h1|h1
      · exact ih W h1
      simp only[List.mem_cons,List.not_mem_nil,or_false]at h1
      exact⟨k,h1,tf_iff.1 h⟩
    exact ih W hW
theorem hom_cases (hl:prlen os pw cj) (hl2:prlen ot qw dj):
    (hmM os pw cj ot qw dj=([],1)∧alM os pw cj ot qw dj=([],1))∨(hmM os pw cj ot qw dj=([],3)∧alM os pw cj ot qw dj=([],3))∨
    (∃Ws,hmM os pw cj ot qw dj=(Ws,0)∧alM os pw cj ot qw dj=([],3))∨
    (∃Ws,hmM os pw cj ot qw dj=(Ws,0)∧alM os pw cj ot qw dj=(Ws,0)∧Ws.length≤200∧(∀k,k<Ws.length→rowslen (Ws.getD k [])∧ACp Tryz.prog 11 [.g (homC os pw cj ot qw dj (Ws.getD k []))] (.b true))∧
      (ACp Tryz.prog 12 [prs os pw cj] (resF ((0,[]),3))∨
        (ACp Tryz.prog 12 [prs os pw cj] (resF ((os.length,rels os pw cj),0))∧ACp Tryz.prog 13 [fp os.length (rels os pw cj),prs ot qw dj] (resN Ws.length 0)))):=by
  by_cases hok:grpP os pw cj∧grpP ot qw dj
  · by_cases ht:hmT os ot≤4096
    · have hM:=hmM_0 os pw cj ot qw dj hok ht
      have hcn:=hm_cnt os pw cj ot qw dj
      obtain⟨⟨hp,hpc⟩,hq,hqc⟩:=hok
      have hmem:=homF_mem os pw cj ot qw dj (hmT os ot).toNat
      have hn6:=hp.1.1
      have hq6:=hq.1.1
      have hq1:=prd_pos hq.2.1 ot.length (Nat.le_refl _)
      rw[hM]at hcn
      rw[ccvP,tf_t ⟨⟨hp,hpc⟩,hq,hqc⟩,if_pos rfl,if_pos ht]at hcn
      generalize homF os pw cj ot qw dj (hmT os ot).toNat=Ws at hM hmem hcn
      dsimp only at hcn
      by_cases h2:200<Ws.length
      · exact .inr (.inr (.inl ⟨Ws,hM,by unfold alM;rw[hM,if_neg (by simp),if_pos h2]⟩))
      refine .inr (.inr (.inr ⟨Ws,hM,by unfold alM;rw[hM,if_neg (by simp),if_neg h2],by omega,fun k hk=>?_,?_⟩))
      · have hm:Ws.getD k []∈Ws:=by rw[List.getD_eq_getElem?_getD,List.getElem?_eq_getElem hk];exact List.getElem_mem _
        obtain⟨j,hj,hh⟩:=hmem _ hm
        have hx:exsP ot (tupS ot (prd ot ot.length) os.length j):=tupS_ex (os:=ot) (N:=prd ot ot.length) (num:=(j:Int)) (c:=os.length) hq.2.1 (by omega) hq1
        rw[hj]
        refine⟨exs_rl hx (by rw[tup_len];omega) (by omega),?_⟩
        have:=impl_IsHom_ok os pw cj ot qw dj hl hl2 ⟨⟨hp,hpc⟩,hq,hqc⟩ _ hx (by rw[tup_len])
        rw[tf_t (show hldP (pc ot qw dj) (tupS ot (prd ot ot.length) os.length j) (rels os pw cj)from hh)]at this
        exact this
      have hf:=(impl_FpOfPresentation_ok os pw cj hl).pure
      rw[tf_t hp,fpoM]at hf
      by_cases h4:(os.length:Int)>4
      · rw[if_pos h4]at hf;exact .inl hf
      rw[if_neg h4]at hf
      refine .inr ⟨hf,?_⟩
      have hc:=impl_CountFpHoms_ok os.length (rels os pw cj) (rels_rl hp) ot qw dj hl2
      unfold hmT at hcn ht
      rw[Int.toNat_natCast,res_yes (show fpP os.length (rels os pw cj)∧grpP ot qw dj from ⟨rels_fp hp (by omega),hq,hqc⟩) ht]at hc
      have he:=count_eq (os:=ot) (N:=prd ot ot.length) (c:=os.length) hq1 ht (fun X=>hldP (pc ot qw dj) X (rels os pw cj))
      rw[←he]at hc
      unfold hmQ at hcn
      rw[resN,hcn]
      exact hc
    exact .inr (.inl ⟨hmM_3 _ _ _ _ _ _ hok ht,by unfold alM;rw[hmM_3 _ _ _ _ _ _ hok ht,if_pos (by decide)]⟩)
  exact .inl ⟨hmM_1 _ _ _ _ _ _ hok,by unfold alM;rw[hmM_1 _ _ _ _ _ _ hok,if_pos (by decide)]⟩
end
theorem homsC_img {os:List Int} {X:List (List Int)} {Y:List (List (List Int))} {ot:List Int} {Z:List (List Int)} {D:List (List (List Int))} {Ws:List (List (List Int))} {k:Nat} (hk:k<Ws.length):(homsC os X Y ot Z D Ws).getD (k*7+6) .j=rows (Ws.getD k []):=by
  rw[homsC_get os X Y ot Z D Ws k 6 hk (by omega)];rfl
set_option maxRecDepth 100000 in
set_option maxHeartbeats 4000000 in
theorem law_FnHomCounts (bs:List Int) (hb:bytsok bs):ACp Tryz.prog 3 [byts bs] (.b true):=by
 have hb1:=hb.1
 have h03:((0:Int)==3)=false:=rfl
 refine ACp.intro' envOk Tryz.func3 rfl (by kernel_rfl) Tryz.ntmps3 Tryz.results3 (.b _) (fun nx cX=>?_)
 refine AW.sr envOk (fun N hN=>?_);simp-dsimp-implicitDefEqProofs (disch:=omega)only[go_sem,resHm,resN,resF,fp,homsA,h03,homsC_img,bne_self_eq_false,beq_self_eq_true,Bool.not_true,Bool.not_false];refine hN _ ?_;try clear hN N
 refine AW.seq (fun N1 hN1=>?_);refine AW.sr envOk (fun N hN=>?_);simp-dsimp-implicitDefEqProofs (disch:=omega)only[go_sem,resHm,resN,resF,fp,homsA,h03,homsC_img,bne_self_eq_false,beq_self_eq_true,Bool.not_true,Bool.not_false];refine AC.pure (.of (laws_big_ok bs hb1)) ?_;try simp-dsimp-implicitDefEqProofs (disch:=omega)only[go_sem,resHm,resN,resF,fp,homsA,h03,homsC_img,bne_self_eq_false,beq_self_eq_true,Bool.not_true,Bool.not_false]
 refine hN _ ?_;try clear hN N
 refine AW.cond rfl (fun h1=>?_) (fun h1=>?_)
 ·try simp only[cn]at h1
  refine AW.sr envOk (fun N hN=>?_);simp-dsimp-implicitDefEqProofs (disch:=omega)only[go_sem,resHm,resN,resF,fp,homsA,h03,homsC_img,bne_self_eq_false,beq_self_eq_true,Bool.not_true,Bool.not_false];refine hN _ ?_;try clear hN N
  refine AW.ret ?_;simp-dsimp-implicitDefEqProofs (disch:=omega)only[go_sem];all_goals rfl
 try simp only[cn]at h1
 refine AW.skip ?_;simp only[thn,blk];refine hN1 _ ?_;try clear hN1 N1
 refine AW.sr envOk (fun N hN=>?_);simp-dsimp-implicitDefEqProofs (disch:=omega)only[go_sem,resHm,resN,resF,fp,homsA,h03,homsC_img,bne_self_eq_false,beq_self_eq_true,Bool.not_true,Bool.not_false];refine(spec_DrawAllHoms_z bs hb (by omega) _).mono2 ?_
 rintro m1 H1 r1 hm1 ⟨os,X,Y,ot,Z,D,rfl,d1,d2⟩
 have hl:=d1.pl
 have hl2:=d2.pl
 have hi:=impl_AllHoms_ok os X Y ot Z D hl hl2
 have hs:=spec_AllHoms_ok os X Y ot Z D hl hl2
 have hc:=impl_CountHoms_ok os X Y ot Z D hl hl2
 rcases hom_cases os X Y ot Z D hl hl2 with ⟨eM,eA⟩|⟨eM,eA⟩|⟨Ws,eM,eA⟩|⟨Ws,eM,eA,hWl,hW,hf|⟨hf,hcf⟩⟩<;>rw[eM]at hc<;>rw[eA]at hi hs
 ·skip
  try simp-dsimp-implicitDefEqProofs (disch:=omega)only[go_sem,prs]
  refine hN _ ?_;try clear hN N
  refine AW.freezeQ 3 (nx+1+2+5) [ints os,rows X,cubes Y] rfl (by simp(disch:=omega)only[upd_same,upd_ne]) ?_
  simp-dsimp-implicitDefEqProofs (disch:=omega)only[go_sem];refine AW.freezeQ 4 (nx+1+2+6) [ints ot,rows Z,cubes D] rfl (by simp(disch:=omega)only[upd_same,upd_ne]) ?_
  simp-dsimp-implicitDefEqProofs (disch:=omega)only[go_sem];refine AW.sr envOk (fun N hN=>?_);simp-dsimp-implicitDefEqProofs (disch:=omega)only[go_sem,resHm,resN,resF,fp,homsA,h03,homsC_img,bne_self_eq_false,beq_self_eq_true,Bool.not_true,Bool.not_false];refine AC.pure (.of (hi)) ?_;try simp-dsimp-implicitDefEqProofs (disch:=omega)only[go_sem,resHm,resN,resF,fp,homsA,h03,homsC_img,bne_self_eq_false,beq_self_eq_true,Bool.not_true,Bool.not_false]
  refine hN _ ?_;try clear hN N
  refine AW.sr envOk (fun N hN=>?_);simp-dsimp-implicitDefEqProofs (disch:=omega)only[go_sem,resHm,resN,resF,fp,homsA,h03,homsC_img,bne_self_eq_false,beq_self_eq_true,Bool.not_true,Bool.not_false];refine AC.pure (.of (hs)) ?_;try simp-dsimp-implicitDefEqProofs (disch:=omega)only[go_sem,resHm,resN,resF,fp,homsA,h03,homsC_img,bne_self_eq_false,beq_self_eq_true,Bool.not_true,Bool.not_false]
  refine hN _ ?_;try clear hN N
  refine AW.sr envOk (fun N hN=>?_);simp-dsimp-implicitDefEqProofs (disch:=omega)only[go_sem,resHm,resN,resF,fp,homsA,h03,homsC_img,bne_self_eq_false,beq_self_eq_true,Bool.not_true,Bool.not_false];refine AC.pure (.of (hc)) ?_;try simp-dsimp-implicitDefEqProofs (disch:=omega)only[go_sem,resHm,resN,resF,fp,homsA,h03,homsC_img,bne_self_eq_false,beq_self_eq_true,Bool.not_true,Bool.not_false]
  refine hN _ ?_;try clear hN N
  refine AW.seq (fun N2 hN2=>?_);refine AW.sr envOk (fun N hN=>?_);simp-dsimp-implicitDefEqProofs (disch:=omega)only[go_sem,resHm,resN,resF,fp,homsA,h03,homsC_img,bne_self_eq_false,beq_self_eq_true,Bool.not_true,Bool.not_false];refine hN _ ?_;try clear hN N
  refine AW.condF rfl ?_;refine AW.skip ?_;simp only[thn,blk];refine hN2 _ ?_;try clear hN2 N2
  refine AW.seq (fun N3 hN3=>?_);refine AW.sr envOk (fun N hN=>?_);simp-dsimp-implicitDefEqProofs (disch:=omega)only[go_sem,resHm,resN,resF,fp,homsA,h03,homsC_img,bne_self_eq_false,beq_self_eq_true,Bool.not_true,Bool.not_false];refine hN _ ?_;try clear hN N
  refine AW.condT rfl ?_;refine AW.sr envOk (fun N hN=>?_);simp-dsimp-implicitDefEqProofs (disch:=omega)only[go_sem,resHm,resN,resF,fp,homsA,h03,homsC_img,bne_self_eq_false,beq_self_eq_true,Bool.not_true,Bool.not_false];refine hN _ ?_;try clear hN N
  refine AW.ret ?_;simp-dsimp-implicitDefEqProofs (disch:=omega)only[go_sem];all_goals rfl
 ·skip
  try simp-dsimp-implicitDefEqProofs (disch:=omega)only[go_sem,prs]
  refine hN _ ?_;try clear hN N
  refine AW.freezeQ 3 (nx+1+2+5) [ints os,rows X,cubes Y] rfl (by simp(disch:=omega)only[upd_same,upd_ne]) ?_
  simp-dsimp-implicitDefEqProofs (disch:=omega)only[go_sem];refine AW.freezeQ 4 (nx+1+2+6) [ints ot,rows Z,cubes D] rfl (by simp(disch:=omega)only[upd_same,upd_ne]) ?_
  simp-dsimp-implicitDefEqProofs (disch:=omega)only[go_sem];refine AW.sr envOk (fun N hN=>?_);simp-dsimp-implicitDefEqProofs (disch:=omega)only[go_sem,resHm,resN,resF,fp,homsA,h03,homsC_img,bne_self_eq_false,beq_self_eq_true,Bool.not_true,Bool.not_false];refine AC.pure (.of (hi)) ?_;try simp-dsimp-implicitDefEqProofs (disch:=omega)only[go_sem,resHm,resN,resF,fp,homsA,h03,homsC_img,bne_self_eq_false,beq_self_eq_true,Bool.not_true,Bool.not_false]
  refine hN _ ?_;try clear hN N
  refine AW.sr envOk (fun N hN=>?_);simp-dsimp-implicitDefEqProofs (disch:=omega)only[go_sem,resHm,resN,resF,fp,homsA,h03,homsC_img,bne_self_eq_false,beq_self_eq_true,Bool.not_true,Bool.not_false];refine AC.pure (.of (hs)) ?_;try simp-dsimp-implicitDefEqProofs (disch:=omega)only[go_sem,resHm,resN,resF,fp,homsA,h03,homsC_img,bne_self_eq_false,beq_self_eq_true,Bool.not_true,Bool.not_false]
  refine hN _ ?_;try clear hN N
  refine AW.sr envOk (fun N hN=>?_);simp-dsimp-implicitDefEqProofs (disch:=omega)only[go_sem,resHm,resN,resF,fp,homsA,h03,homsC_img,bne_self_eq_false,beq_self_eq_true,Bool.not_true,Bool.not_false];refine AC.pure (.of (hc)) ?_;try simp-dsimp-implicitDefEqProofs (disch:=omega)only[go_sem,resHm,resN,resF,fp,homsA,h03,homsC_img,bne_self_eq_false,beq_self_eq_true,Bool.not_true,Bool.not_false]
  refine hN _ ?_;try clear hN N
  refine AW.seq (fun N4 hN4=>?_);refine AW.sr envOk (fun N hN=>?_);simp-dsimp-implicitDefEqProofs (disch:=omega)only[go_sem,resHm,resN,resF,fp,homsA,h03,homsC_img,bne_self_eq_false,beq_self_eq_true,Bool.not_true,Bool.not_false];refine hN _ ?_;try clear hN N
  refine AW.condF rfl ?_;refine AW.skip ?_;simp only[thn,blk];refine hN4 _ ?_;try clear hN4 N4
  refine AW.seq (fun N5 hN5=>?_);refine AW.sr envOk (fun N hN=>?_);simp-dsimp-implicitDefEqProofs (disch:=omega)only[go_sem,resHm,resN,resF,fp,homsA,h03,homsC_img,bne_self_eq_false,beq_self_eq_true,Bool.not_true,Bool.not_false];refine hN _ ?_;try clear hN N
  refine AW.condT rfl ?_;refine AW.sr envOk (fun N hN=>?_);simp-dsimp-implicitDefEqProofs (disch:=omega)only[go_sem,resHm,resN,resF,fp,homsA,h03,homsC_img,bne_self_eq_false,beq_self_eq_true,Bool.not_true,Bool.not_false];refine hN _ ?_;try clear hN N
  refine AW.ret ?_;simp-dsimp-implicitDefEqProofs (disch:=omega)only[go_sem];all_goals rfl
 ·skip
  try simp-dsimp-implicitDefEqProofs (disch:=omega)only[go_sem,prs]
  refine hN _ ?_;try clear hN N
  refine AW.freezeQ 3 (nx+1+2+5) [ints os,rows X,cubes Y] rfl (by simp(disch:=omega)only[upd_same,upd_ne]) ?_
  simp-dsimp-implicitDefEqProofs (disch:=omega)only[go_sem];refine AW.freezeQ 4 (nx+1+2+6) [ints ot,rows Z,cubes D] rfl (by simp(disch:=omega)only[upd_same,upd_ne]) ?_
  simp-dsimp-implicitDefEqProofs (disch:=omega)only[go_sem];refine AW.sr envOk (fun N hN=>?_);simp-dsimp-implicitDefEqProofs (disch:=omega)only[go_sem,resHm,resN,resF,fp,homsA,h03,homsC_img,bne_self_eq_false,beq_self_eq_true,Bool.not_true,Bool.not_false];refine AC.pure (.of (hi)) ?_;try simp-dsimp-implicitDefEqProofs (disch:=omega)only[go_sem,resHm,resN,resF,fp,homsA,h03,homsC_img,bne_self_eq_false,beq_self_eq_true,Bool.not_true,Bool.not_false]
  refine hN _ ?_;try clear hN N
  refine AW.sr envOk (fun N hN=>?_);simp-dsimp-implicitDefEqProofs (disch:=omega)only[go_sem,resHm,resN,resF,fp,homsA,h03,homsC_img,bne_self_eq_false,beq_self_eq_true,Bool.not_true,Bool.not_false];refine AC.pure (.of (hs)) ?_;try simp-dsimp-implicitDefEqProofs (disch:=omega)only[go_sem,resHm,resN,resF,fp,homsA,h03,homsC_img,bne_self_eq_false,beq_self_eq_true,Bool.not_true,Bool.not_false]
  refine hN _ ?_;try clear hN N
  refine AW.sr envOk (fun N hN=>?_);simp-dsimp-implicitDefEqProofs (disch:=omega)only[go_sem,resHm,resN,resF,fp,homsA,h03,homsC_img,bne_self_eq_false,beq_self_eq_true,Bool.not_true,Bool.not_false];refine AC.pure (.of (hc)) ?_;try simp-dsimp-implicitDefEqProofs (disch:=omega)only[go_sem,resHm,resN,resF,fp,homsA,h03,homsC_img,bne_self_eq_false,beq_self_eq_true,Bool.not_true,Bool.not_false]
  refine hN _ ?_;try clear hN N
  refine AW.seq (fun N6 hN6=>?_);refine AW.sr envOk (fun N hN=>?_);simp-dsimp-implicitDefEqProofs (disch:=omega)only[go_sem,resHm,resN,resF,fp,homsA,h03,homsC_img,bne_self_eq_false,beq_self_eq_true,Bool.not_true,Bool.not_false];refine hN _ ?_;try clear hN N
  refine AW.condF rfl ?_;refine AW.skip ?_;simp only[thn,blk];refine hN6 _ ?_;try clear hN6 N6
  refine AW.seq (fun N7 hN7=>?_);refine AW.sr envOk (fun N hN=>?_);simp-dsimp-implicitDefEqProofs (disch:=omega)only[go_sem,resHm,resN,resF,fp,homsA,h03,homsC_img,bne_self_eq_false,beq_self_eq_true,Bool.not_true,Bool.not_false];refine hN _ ?_;try clear hN N
  refine AW.condT rfl ?_;refine AW.sr envOk (fun N hN=>?_);simp-dsimp-implicitDefEqProofs (disch:=omega)only[go_sem,resHm,resN,resF,fp,homsA,h03,homsC_img,bne_self_eq_false,beq_self_eq_true,Bool.not_true,Bool.not_false];refine hN _ ?_;try clear hN N
  refine AW.ret ?_;simp-dsimp-implicitDefEqProofs (disch:=omega)only[go_sem];all_goals rfl
 ·skip
  have hcl:=homsC_len os X Y ot Z D Ws
  try simp-dsimp-implicitDefEqProofs (disch:=omega)only[go_sem,prs]
  refine hN _ ?_;try clear hN N
  refine AW.freezeQ 3 (nx+1+2+5) [ints os,rows X,cubes Y] rfl (by simp(disch:=omega)only[upd_same,upd_ne]) ?_
  simp-dsimp-implicitDefEqProofs (disch:=omega)only[go_sem];refine AW.freezeQ 4 (nx+1+2+6) [ints ot,rows Z,cubes D] rfl (by simp(disch:=omega)only[upd_same,upd_ne]) ?_
  simp-dsimp-implicitDefEqProofs (disch:=omega)only[go_sem];refine AW.sr envOk (fun N hN=>?_);simp-dsimp-implicitDefEqProofs (disch:=omega)only[go_sem,resHm,resN,resF,fp,homsA,h03,homsC_img,bne_self_eq_false,beq_self_eq_true,Bool.not_true,Bool.not_false];refine AC.pure (.of (hi)) ?_;try simp-dsimp-implicitDefEqProofs (disch:=omega)only[go_sem,resHm,resN,resF,fp,homsA,h03,homsC_img,bne_self_eq_false,beq_self_eq_true,Bool.not_true,Bool.not_false]
  refine hN _ ?_;try clear hN N
  refine AW.sr envOk (fun N hN=>?_);simp-dsimp-implicitDefEqProofs (disch:=omega)only[go_sem,resHm,resN,resF,fp,homsA,h03,homsC_img,bne_self_eq_false,beq_self_eq_true,Bool.not_true,Bool.not_false];refine AC.pure (.of (hs)) ?_;try simp-dsimp-implicitDefEqProofs (disch:=omega)only[go_sem,resHm,resN,resF,fp,homsA,h03,homsC_img,bne_self_eq_false,beq_self_eq_true,Bool.not_true,Bool.not_false]
  refine hN _ ?_;try clear hN N
  refine AW.sr envOk (fun N hN=>?_);simp-dsimp-implicitDefEqProofs (disch:=omega)only[go_sem,resHm,resN,resF,fp,homsA,h03,homsC_img,bne_self_eq_false,beq_self_eq_true,Bool.not_true,Bool.not_false];refine AC.pure (.of (hc)) ?_;try simp-dsimp-implicitDefEqProofs (disch:=omega)only[go_sem,resHm,resN,resF,fp,homsA,h03,homsC_img,bne_self_eq_false,beq_self_eq_true,Bool.not_true,Bool.not_false]
  refine hN _ ?_;try clear hN N
  refine AW.seq (fun N8 hN8=>?_);refine AW.sr envOk (fun N hN=>?_);simp-dsimp-implicitDefEqProofs (disch:=omega)only[go_sem,resHm,resN,resF,fp,homsA,h03,homsC_img,bne_self_eq_false,beq_self_eq_true,Bool.not_true,Bool.not_false];refine hN _ ?_;try clear hN N
  refine AW.condF rfl ?_;refine AW.skip ?_;simp only[thn,blk];refine hN8 _ ?_;try clear hN8 N8
  refine AW.seq (fun N9 hN9=>?_);refine AW.sr envOk (fun N hN=>?_);simp-dsimp-implicitDefEqProofs (disch:=omega)only[go_sem,resHm,resN,resF,fp,homsA,h03,homsC_img,bne_self_eq_false,beq_self_eq_true,Bool.not_true,Bool.not_false];refine hN _ ?_;try clear hN N
  refine AW.condF rfl ?_;refine AW.skip ?_;simp only[thn,blk];refine hN9 _ ?_;try clear hN9 N9
  refine AW.seq (fun N10 hN10=>?_);refine AW.sr envOk (fun N hN=>?_);simp-dsimp-implicitDefEqProofs (disch:=omega)only[go_sem,resHm,resN,resF,fp,homsA,h03,homsC_img,bne_self_eq_false,beq_self_eq_true,Bool.not_true,Bool.not_false];refine hN _ ?_;try clear hN N
  refine AW.condF rfl ?_;refine AW.skip ?_;simp only[thn,blk];refine hN10 _ ?_;try clear hN10 N10
  refine AW.seq (fun N11 hN11=>?_);refine AW.sr envOk (fun N hN=>?_);simp-dsimp-implicitDefEqProofs (disch:=omega)only[go_sem,resHm,resN,resF,fp,homsA,h03,homsC_img,bne_self_eq_false,beq_self_eq_true,Bool.not_true,Bool.not_false];refine hN _ ?_;try clear hN N
  refine AW.block ?_;refine AW.loopN (α:=Nat) (fun x=>sl 120 [(3,.p 0 [ints os,rows X,cubes Y]),(4,.p 0 [ints ot,rows Z,cubes D]),(5,homsA os X Y ot Z D Ws),(7,homsA os X Y ot Z D Ws),(9,.i .i64 Ws.length),(11,.i .i64 x)]) (fun _=>noH) (fun x m=>x≤Ws.length) (fun x=>Ws.length-x) (0) ?_ ?_ (by intro d cs hd;cases hd) ?_
  ·omega
  ·simp(disch:=omega) [wks,wkA,sl,w64,ints,rows,cubes,w64,resHm,resN,resF,fp,homsA,h03,homsC_img,bne_self_eq_false,beq_self_eq_true,Bool.not_true,Bool.not_false]<;>omega
  skip
  rintro k m hk
  simp-dsimp-implicitDefEqProofs (disch:=omega)only[go_sem];have hwk:=hW k
  refine AW.seq (fun N12 hN12=>?_);refine AW.sr envOk (fun N hN=>?_);simp-dsimp-implicitDefEqProofs (disch:=omega)only[go_sem,resHm,resN,resF,fp,homsA,h03,homsC_img,bne_self_eq_false,beq_self_eq_true,Bool.not_true,Bool.not_false];refine hN _ ?_;try clear hN N
  refine AW.cond rfl (fun h2=>?_) (fun h2=>?_)
  ·try simp only[cn]at h2
   refine AW.skip ?_;simp only[thn,blk];refine hN12 _ ?_;try clear hN12 N12
   refine AW.seq (fun N13 hN13=>?_);refine AW.block ?_;refine AW.seq (fun N hN=>?_);refine AW.drawL envOk (by kernel_rfl) 20 (by kernel_rfl) ?_
   simp-dsimp-implicitDefEqProofs (disch:=omega)only[hr_nil,hr_one,hr_if,List.take_succ_cons,List.take_zero,List.drop_succ_cons,List.drop_zero,List.take_nil,List.drop_nil,go_sem,undef,w64,resHm,resN,resF,fp,homsA,h03,homsC_img,bne_self_eq_false,beq_self_eq_true,Bool.not_true,Bool.not_false];refine⟨_,.of (laws_like29_e (Ws.getD k []) (hW k (by omega)).1),?_⟩
   try simp-dsimp-implicitDefEqProofs (disch:=omega)only[go_sem,resHm,resN,resF,fp,homsA,h03,homsC_img,bne_self_eq_false,beq_self_eq_true,Bool.not_true,Bool.not_false]
   refine⟨_,.of ((by rw[homsC_drop os X Y ot Z D Ws k (by omega)];exact(hW k (by omega)).2)),?_⟩
   try simp-dsimp-implicitDefEqProofs (disch:=omega)only[go_sem,resHm,resN,resF,fp,homsA,h03,homsC_img,bne_self_eq_false,beq_self_eq_true,Bool.not_true,Bool.not_false]
   refine hN _ ?_;try clear hN N
   refine AW.condF rfl ?_;refine AW.skip ?_;simp only[thn,blk];refine hN13 _ ?_;try clear hN13 N13
   refine AW.regionL envOk ?_;simp-dsimp-implicitDefEqProofs (disch:=omega)only[go_sem,resHm,resN,resF,fp,homsA,h03,homsC_img,bne_self_eq_false,beq_self_eq_true,Bool.not_true,Bool.not_false];refine⟨k+1,?_,fun _ _ h=>h,?_,?_⟩
   ·simp(disch:=omega) [wks,wkA,sl,w64,ints,rows,cubes,w64,resHm,resN,resF,fp,homsA,h03,homsC_img,bne_self_eq_false,beq_self_eq_true,Bool.not_true,Bool.not_false]<;>omega
   ·omega
   first|omega|(simp only;omega)
  try simp only[cn]at h2
  refine AW.exit ?_;simp only[thn,blk,if_true];refine hN11 _ ?_;try clear hN11 N11
  refine AW.sr envOk (fun N hN=>?_);simp-dsimp-implicitDefEqProofs (disch:=omega)only[go_sem,resHm,resN,resF,fp,homsA,h03,homsC_img,bne_self_eq_false,beq_self_eq_true,Bool.not_true,Bool.not_false];refine AC.pure (.of (hf)) ?_;try simp-dsimp-implicitDefEqProofs (disch:=omega)only[go_sem,resHm,resN,resF,fp,homsA,h03,homsC_img,bne_self_eq_false,beq_self_eq_true,Bool.not_true,Bool.not_false]
  refine hN _ ?_;try clear hN N
  refine AW.seq (fun N14 hN14=>?_);refine AW.sr envOk (fun N hN=>?_);simp-dsimp-implicitDefEqProofs (disch:=omega)only[go_sem,resHm,resN,resF,fp,homsA,h03,homsC_img,bne_self_eq_false,beq_self_eq_true,Bool.not_true,Bool.not_false];refine hN _ ?_;try clear hN N
  refine AW.condT rfl ?_;refine AW.sr envOk (fun N hN=>?_);simp-dsimp-implicitDefEqProofs (disch:=omega)only[go_sem,resHm,resN,resF,fp,homsA,h03,homsC_img,bne_self_eq_false,beq_self_eq_true,Bool.not_true,Bool.not_false];refine hN _ ?_;try clear hN N
  refine AW.ret ?_;simp-dsimp-implicitDefEqProofs (disch:=omega)only[go_sem];all_goals rfl
 skip
 have hcl:=homsC_len os X Y ot Z D Ws
 try simp-dsimp-implicitDefEqProofs (disch:=omega)only[go_sem,prs]
 refine hN _ ?_;try clear hN N
 refine AW.freezeQ 3 (nx+1+2+5) [ints os,rows X,cubes Y] rfl (by simp(disch:=omega)only[upd_same,upd_ne]) ?_
 simp-dsimp-implicitDefEqProofs (disch:=omega)only[go_sem];refine AW.freezeQ 4 (nx+1+2+6) [ints ot,rows Z,cubes D] rfl (by simp(disch:=omega)only[upd_same,upd_ne]) ?_
 simp-dsimp-implicitDefEqProofs (disch:=omega)only[go_sem];refine AW.sr envOk (fun N hN=>?_);simp-dsimp-implicitDefEqProofs (disch:=omega)only[go_sem,resHm,resN,resF,fp,homsA,h03,homsC_img,bne_self_eq_false,beq_self_eq_true,Bool.not_true,Bool.not_false];refine AC.pure (.of (hi)) ?_;try simp-dsimp-implicitDefEqProofs (disch:=omega)only[go_sem,resHm,resN,resF,fp,homsA,h03,homsC_img,bne_self_eq_false,beq_self_eq_true,Bool.not_true,Bool.not_false]
 refine hN _ ?_;try clear hN N
 refine AW.sr envOk (fun N hN=>?_);simp-dsimp-implicitDefEqProofs (disch:=omega)only[go_sem,resHm,resN,resF,fp,homsA,h03,homsC_img,bne_self_eq_false,beq_self_eq_true,Bool.not_true,Bool.not_false];refine AC.pure (.of (hs)) ?_;try simp-dsimp-implicitDefEqProofs (disch:=omega)only[go_sem,resHm,resN,resF,fp,homsA,h03,homsC_img,bne_self_eq_false,beq_self_eq_true,Bool.not_true,Bool.not_false]
 refine hN _ ?_;try clear hN N
 refine AW.sr envOk (fun N hN=>?_);simp-dsimp-implicitDefEqProofs (disch:=omega)only[go_sem,resHm,resN,resF,fp,homsA,h03,homsC_img,bne_self_eq_false,beq_self_eq_true,Bool.not_true,Bool.not_false];refine AC.pure (.of (hc)) ?_;try simp-dsimp-implicitDefEqProofs (disch:=omega)only[go_sem,resHm,resN,resF,fp,homsA,h03,homsC_img,bne_self_eq_false,beq_self_eq_true,Bool.not_true,Bool.not_false]
 refine hN _ ?_;try clear hN N
 refine AW.seq (fun N15 hN15=>?_);refine AW.sr envOk (fun N hN=>?_);simp-dsimp-implicitDefEqProofs (disch:=omega)only[go_sem,resHm,resN,resF,fp,homsA,h03,homsC_img,bne_self_eq_false,beq_self_eq_true,Bool.not_true,Bool.not_false];refine hN _ ?_;try clear hN N
 refine AW.condF rfl ?_;refine AW.skip ?_;simp only[thn,blk];refine hN15 _ ?_;try clear hN15 N15
 refine AW.seq (fun N16 hN16=>?_);refine AW.sr envOk (fun N hN=>?_);simp-dsimp-implicitDefEqProofs (disch:=omega)only[go_sem,resHm,resN,resF,fp,homsA,h03,homsC_img,bne_self_eq_false,beq_self_eq_true,Bool.not_true,Bool.not_false];refine hN _ ?_;try clear hN N
 refine AW.condF rfl ?_;refine AW.skip ?_;simp only[thn,blk];refine hN16 _ ?_;try clear hN16 N16
 refine AW.seq (fun N17 hN17=>?_);refine AW.sr envOk (fun N hN=>?_);simp-dsimp-implicitDefEqProofs (disch:=omega)only[go_sem,resHm,resN,resF,fp,homsA,h03,homsC_img,bne_self_eq_false,beq_self_eq_true,Bool.not_true,Bool.not_false];refine hN _ ?_;try clear hN N
 refine AW.condF rfl ?_;refine AW.skip ?_;simp only[thn,blk];refine hN17 _ ?_;try clear hN17 N17
 refine AW.seq (fun N18 hN18=>?_);refine AW.sr envOk (fun N hN=>?_);simp-dsimp-implicitDefEqProofs (disch:=omega)only[go_sem,resHm,resN,resF,fp,homsA,h03,homsC_img,bne_self_eq_false,beq_self_eq_true,Bool.not_true,Bool.not_false];refine hN _ ?_;try clear hN N
 refine AW.block ?_;refine AW.loopN (α:=Nat) (fun x=>sl 120 [(3,.p 0 [ints os,rows X,cubes Y]),(4,.p 0 [ints ot,rows Z,cubes D]),(5,homsA os X Y ot Z D Ws),(7,homsA os X Y ot Z D Ws),(9,.i .i64 Ws.length),(11,.i .i64 x)]) (fun _=>noH) (fun x m=>x≤Ws.length) (fun x=>Ws.length-x) (0) ?_ ?_ (by intro d cs hd;cases hd) ?_
 ·omega
 ·simp(disch:=omega) [wks,wkA,sl,w64,ints,rows,cubes,w64,resHm,resN,resF,fp,homsA,h03,homsC_img,bne_self_eq_false,beq_self_eq_true,Bool.not_true,Bool.not_false]<;>omega
 skip
 rintro k m hk
 simp-dsimp-implicitDefEqProofs (disch:=omega)only[go_sem];have hwk:=hW k
 refine AW.seq (fun N19 hN19=>?_);refine AW.sr envOk (fun N hN=>?_);simp-dsimp-implicitDefEqProofs (disch:=omega)only[go_sem,resHm,resN,resF,fp,homsA,h03,homsC_img,bne_self_eq_false,beq_self_eq_true,Bool.not_true,Bool.not_false];refine hN _ ?_;try clear hN N
 refine AW.cond rfl (fun h3=>?_) (fun h3=>?_)
 ·try simp only[cn]at h3
  refine AW.skip ?_;simp only[thn,blk];refine hN19 _ ?_;try clear hN19 N19
  refine AW.seq (fun N20 hN20=>?_);refine AW.block ?_;refine AW.seq (fun N hN=>?_);refine AW.drawL envOk (by kernel_rfl) 20 (by kernel_rfl) ?_
  simp-dsimp-implicitDefEqProofs (disch:=omega)only[hr_nil,hr_one,hr_if,List.take_succ_cons,List.take_zero,List.drop_succ_cons,List.drop_zero,List.take_nil,List.drop_nil,go_sem,undef,w64,resHm,resN,resF,fp,homsA,h03,homsC_img,bne_self_eq_false,beq_self_eq_true,Bool.not_true,Bool.not_false];refine⟨_,.of (laws_like29_e (Ws.getD k []) (hW k (by omega)).1),?_⟩
  try simp-dsimp-implicitDefEqProofs (disch:=omega)only[go_sem,resHm,resN,resF,fp,homsA,h03,homsC_img,bne_self_eq_false,beq_self_eq_true,Bool.not_true,Bool.not_false]
  refine⟨_,.of ((by rw[homsC_drop os X Y ot Z D Ws k (by omega)];exact(hW k (by omega)).2)),?_⟩
  try simp-dsimp-implicitDefEqProofs (disch:=omega)only[go_sem,resHm,resN,resF,fp,homsA,h03,homsC_img,bne_self_eq_false,beq_self_eq_true,Bool.not_true,Bool.not_false]
  refine hN _ ?_;try clear hN N
  refine AW.condF rfl ?_;refine AW.skip ?_;simp only[thn,blk];refine hN20 _ ?_;try clear hN20 N20
  refine AW.regionL envOk ?_;simp-dsimp-implicitDefEqProofs (disch:=omega)only[go_sem,resHm,resN,resF,fp,homsA,h03,homsC_img,bne_self_eq_false,beq_self_eq_true,Bool.not_true,Bool.not_false];refine⟨k+1,?_,fun _ _ h=>h,?_,?_⟩
  ·simp(disch:=omega) [wks,wkA,sl,w64,ints,rows,cubes,w64,resHm,resN,resF,fp,homsA,h03,homsC_img,bne_self_eq_false,beq_self_eq_true,Bool.not_true,Bool.not_false]<;>omega
  ·omega
  first|omega|(simp only;omega)
 try simp only[cn]at h3
 refine AW.exit ?_;simp only[thn,blk,if_true];refine hN18 _ ?_;try clear hN18 N18
 refine AW.sr envOk (fun N hN=>?_);simp-dsimp-implicitDefEqProofs (disch:=omega)only[go_sem,resHm,resN,resF,fp,homsA,h03,homsC_img,bne_self_eq_false,beq_self_eq_true,Bool.not_true,Bool.not_false];refine AC.pure (.of (hf)) ?_;try simp-dsimp-implicitDefEqProofs (disch:=omega)only[go_sem,resHm,resN,resF,fp,homsA,h03,homsC_img,bne_self_eq_false,beq_self_eq_true,Bool.not_true,Bool.not_false]
 refine hN _ ?_;try clear hN N
 refine AW.seq (fun N21 hN21=>?_);refine AW.sr envOk (fun N hN=>?_);simp-dsimp-implicitDefEqProofs (disch:=omega)only[go_sem,resHm,resN,resF,fp,homsA,h03,homsC_img,bne_self_eq_false,beq_self_eq_true,Bool.not_true,Bool.not_false];refine hN _ ?_;try clear hN N
 refine AW.condF rfl ?_;refine AW.skip ?_;simp only[thn,blk];refine hN21 _ ?_;try clear hN21 N21
 refine AW.sr envOk (fun N hN=>?_);simp-dsimp-implicitDefEqProofs (disch:=omega)only[go_sem,resHm,resN,resF,fp,homsA,h03,homsC_img,bne_self_eq_false,beq_self_eq_true,Bool.not_true,Bool.not_false];refine AC.pure (.of (hcf)) ?_;try simp-dsimp-implicitDefEqProofs (disch:=omega)only[go_sem,resHm,resN,resF,fp,homsA,h03,homsC_img,bne_self_eq_false,beq_self_eq_true,Bool.not_true,Bool.not_false]
 refine hN _ ?_;try clear hN N
 refine AW.sr envOk (fun N hN=>?_);simp-dsimp-implicitDefEqProofs (disch:=omega)only[go_sem,resHm,resN,resF,fp,homsA,h03,homsC_img,bne_self_eq_false,beq_self_eq_true,Bool.not_true,Bool.not_false];refine hN _ ?_;try clear hN N
 refine AW.ret ?_;simp-dsimp-implicitDefEqProofs (disch:=omega)only[go_sem];all_goals rfl
end Go.Proofs.YtghmeeifjeafmaaGreat
