import Derived.Handed
import Derived.Below
import Derived.Shelf.Vars
import Derived.Test.YtlcddiojeghfgaaGreatDoorZ51
set_option linter.unusedVariables false
set_option linter.unusedSimpArgs false
namespace Go.Proofs.YtlcddiojeghfgaaGreatDoor
open Nat (reduceAdd reduceSub reduceGT reduceEqDiff reduceMul)
theorem Ow.fp_inv {H:HP} {r:AV} {g:Int} {rs:List (List Int)} {ids:List Nat} (h:Ow H r (Go.Proofs.YtlcddiojeghfgaaGreatDoor.fp g rs) ids):∃r1,r= .g [.i .i64 g,r1]∧Ow H r1 (rows rs) ids:=by
  unfold Go.Proofs.YtlcddiojeghfgaaGreatDoor.fp at h
  generalize hX:AV.g [AV.i .i64 g,rows rs]=X at h
  cases h with
  | leaf _ hf hn=>
    subst hX
    cases hf with|g _ hf=>cases hn with|g _ hn=>exact⟨rows rs,rfl,.leaf _ (hf 1 _ rfl) (hn 1 _ rfl)⟩
  |nl=>cases hX
  |h id cs ts ids' h1 h2=>cases hX
  |q id cs ts ids' h1 h2=>cases hX
  | g cs ts ids' h2=>
    cases hX
    cases h2 with|cons x0 _ xs _ i0 j0 g1 g2=>cases g2 with|cons x1 _ xs _ i1 j1 g3 g4=>
      cases g4
      cases g1 with|leaf _ _ _=>exact⟨x1,rfl,by simpa using g3⟩
  |t cs ts ids' h2=>cases hX
theorem Hold.fp3 {H:HP} {lo hi:Nat} {r:AV} {g:Int} {rs:List (List Int)} (h:Hold H lo hi r (Go.Proofs.YtlcddiojeghfgaaGreatDoor.fp g rs)):∃r1,r= .g [.i .i64 g,r1]∧one r1=true∧Hold H lo hi r1 (rows rs):=by
  obtain⟨ids,h1,h2,h3⟩:=h
  obtain⟨r1,rfl,h5⟩:=h1.fp_inv
  exact⟨r1,rfl,one_ow h5,ids,h5,h2,h3⟩
theorem ACv.hold {vs:VL} {P:Program} {f:FuncId} {nx:Nat} {H:HP} {xs ts:List AV} {X:AV} {K:Nat→HP→AV→Prop} (h:ACov vs P f ts X) (hv:Vws H xs ts)
    (hk:∀nx' H' r,nx≤nx'→(∀i,i<nx→H' i=H i)→Hold H' nx nx' r X→K nx' H' r):ACv vs P f nx H xs K:=
  ACv.own h hv (fun nx' H' r ids h1 h2 h3=>hk nx' H' r h1 h2 ⟨ids,h3⟩)
theorem law_runV {vs:VL} {P:Program} {w:World} {f:FuncId} {xs:List AV} {us:Array Value} (hg:GVs vs w) (h:∀nx,ACv vs P f nx noH xs fun _ _ r=>r= .b true) (ha:ArgsR noL w noM xs us):Calls P f us w fun e w'=>e= .returned (.bool true)∧RowKit.Below w.heap.size w w':=by
  refine((h 0).2 noL noM w us (SR_noH (fun _ h=>h.elim)) (fun _ _=>rfl) (by rw[MM_noH];exact ha) (fun _ _=>LB_noH) hg).mono ?_
  rintro e w' ⟨u,r,L',nx',H',h1,rfl,_,_,_,_,h2,h3⟩
  rw[h3.b_inv]at h1
  exact⟨h1,h2.os,h2.tape,h2.output,h2.size,fun k hk=>h2.keep k hk LB_noH⟩
theorem fpT_y {g:Int} {rs:List (List Int)} (h:fpP g rs):fpT g rs= .t [.s (jn (dg g) rs),.i .i64 0]:=by
  unfold fpT;rw[if_pos (tf_t h)]
theorem fpT_n {g:Int} {rs:List (List Int)} (h:¬fpP g rs):fpT g rs= .t [.s ⟨#[]⟩,.i .i64 1]:=by
  unfold fpT;rw[tf_f h];rfl
theorem rwQ.rl {W:List (List Int)} (h:rwQ W):rowslen W:=⟨by have:=h.n;omega,h.v⟩
set_option maxHeartbeats 4000000 in
theorem law_FnFpTexts (bs:List Int) (hb:bytsok bs):∀nx,ACv erV Tryz.prog 3 nx noH [byts bs] (fun _ _ r=>r= .b true):=by
 intro nx
 have hb1:=hb.1
 refine ACv.intro envOk Tryz.func3 rfl (by kernel_rfl) Tryz.ntmps3 Tryz.results3 (fun cX hcg _ _=> ?_)
 refine AW.sr envOk (fun N hN=> ?_)
 simp-dsimp-implicitDefEqProofs (disch:=omega) only[go_sem,undef,resF,fp,w64,bne_self_eq_false,beq_self_eq_true,Bool.not_true,Bool.not_false]
 refine hN _ ?_
 try clear hN N
 refine AW.seq (fun N1 hN1=> ?_)
 refine AW.sr envOk (fun N hN=> ?_)
 simp-dsimp-implicitDefEqProofs (disch:=omega) only[go_sem,undef,resF,fp,w64,bne_self_eq_false,beq_self_eq_true,Bool.not_true,Bool.not_false]
 refine AC.pure (.of (laws_big_ok bs hb1)) ?_
 try simp-dsimp-implicitDefEqProofs (disch:=omega) only[go_sem,undef,resF,fp,w64,bne_self_eq_false,beq_self_eq_true,Bool.not_true,Bool.not_false]
 refine hN _ ?_
 try clear hN N
 refine AW.cond rfl (fun h1=> ?_) (fun h1=> ?_)
 ·try simp only[cn]at h1
  refine AW.sr envOk (fun N hN=> ?_)
  simp-dsimp-implicitDefEqProofs (disch:=omega) only[go_sem,undef,resF,fp,w64,bne_self_eq_false,beq_self_eq_true,Bool.not_true,Bool.not_false]
  refine hN _ ?_
  try clear hN N
  refine AW.ret ?_
  simp-dsimp-implicitDefEqProofs (disch:=omega) only[go_sem,undef]
  skip
 ·try simp only[cn]at h1
  refine AW.skip ?_
  simp only[thn,blk]
  refine hN1 _ ?_
  try clear hN1 N1
  refine AW.sr envOk (fun N hN=> ?_)
  simp-dsimp-implicitDefEqProofs (disch:=omega) only[go_sem,undef,resF,fp,w64,bne_self_eq_false,beq_self_eq_true,Bool.not_true,Bool.not_false]
  refine AC.mono2 (AC.frame (spec_DrawFpText_z bs hb (by omega) _)) ?_
  rintro m1 H1 r1 hm1 ⟨H0,⟨g,W,rfl,hW⟩,hlow,hhigh⟩
  have hi:=impl_FpText_ok g W hW.rl
  have hs:=spec_FpText_ok g W hW.rl
  have hf:=impl_IsFpGroup_ok g W hW.rl
  by_cases hq:fpP g W
  ·skip
   rw[fpT_y hq]at hi hs
   have hp:=impl_ParseFp_o _ (jn_len hq)
   rw[fgM_jn hq,ofL_to]at hp
   have hlk:=laws_like29_e W hW.rl
   generalize jn (dg g) W=T at hi hs hp
   try simp-dsimp-implicitDefEqProofs (disch:=omega) only[go_sem,undef,fp,w64]
   refine hN _ ?_
   try clear hN N
   refine AW.freezeQ 3 (nx+1+2+2) _ rfl (upd_same _ _ _) ?_
   simp-dsimp-implicitDefEqProofs (disch:=omega) only[go_sem,undef]
   refine AW.sr envOk (fun N hN=> ?_)
   simp-dsimp-implicitDefEqProofs (disch:=omega) only[go_sem,undef,resF,fp,w64,bne_self_eq_false,beq_self_eq_true,Bool.not_true,Bool.not_false]
   refine AC.pure (.of (hi)) ?_
   try simp-dsimp-implicitDefEqProofs (disch:=omega) only[go_sem,undef,resF,fp,w64,bne_self_eq_false,beq_self_eq_true,Bool.not_true,Bool.not_false]
   refine hN _ ?_
   try clear hN N
   refine AW.sr envOk (fun N hN=> ?_)
   simp-dsimp-implicitDefEqProofs (disch:=omega) only[go_sem,undef,resF,fp,w64,bne_self_eq_false,beq_self_eq_true,Bool.not_true,Bool.not_false]
   refine AC.pure (.of (hs)) ?_
   try simp-dsimp-implicitDefEqProofs (disch:=omega) only[go_sem,undef,resF,fp,w64,bne_self_eq_false,beq_self_eq_true,Bool.not_true,Bool.not_false]
   refine hN _ ?_
   try clear hN N
   refine AW.seq (fun N2 hN2=> ?_)
   refine AW.sr envOk (fun N hN=> ?_)
   simp-dsimp-implicitDefEqProofs (disch:=omega) only[go_sem,undef,resF,fp,w64,bne_self_eq_false,beq_self_eq_true,Bool.not_true,Bool.not_false]
   refine hN _ ?_
   try clear hN N
   refine AW.condF rfl ?_
   refine AW.skip ?_
   simp only[thn,blk]
   refine hN2 _ ?_
   try clear hN2 N2
   refine AW.seq (fun N3 hN3=> ?_)
   refine AW.sr envOk (fun N hN=> ?_)
   simp-dsimp-implicitDefEqProofs (disch:=omega) only[go_sem,undef,resF,fp,w64,bne_self_eq_false,beq_self_eq_true,Bool.not_true,Bool.not_false]
   refine hN _ ?_
   try clear hN N
   refine AW.condF rfl ?_
   refine AW.skip ?_
   simp only[thn,blk]
   refine hN3 _ ?_
   try clear hN3 N3
   refine AW.seq (fun N hN=> ?_)
   refine AW.regionX envOk 1 _ rfl rfl ?_
   simp-dsimp-implicitDefEqProofs (disch:=omega) only[List.take_succ_cons,List.take_zero,List.drop_succ_cons,List.drop_zero,List.take_nil,List.drop_nil,go_sem,undef,resF,fp,w64]
   refine XC.callv hcg rfl ?_
   refine ACv.hold hp (.cons (.refl _) .nil) ?_
   intro m5 H5 r_z hm5 hH5 ho_z
   obtain⟨g0,rfl,hg⟩:=ho_z.pair
   obtain⟨s1,rfl,v1,hg2⟩:=hg.fp3
   dsimp only at hm5 hH5 hg2
   clear ho_z hg
   try simp-dsimp-implicitDefEqProofs (disch:=omega) only[go_sem,undef,fp,w64,v1,Bool.and_true]
   refine hN _ ?_
   try clear hN N
   refine AW.freezeQ 8 (m1+7+7+8+2+5) _ rfl (upd_same _ _ _) ?_
   refine AW.nameH (fun G6 hG6=> ?_)
   dsimp only at hG6
   replace hg2:=hg2.keep (H':=G6) (fun i q1 q2=>by rw[←hG6];simp(disch:=omega) only[upd_ne])
   simp-dsimp-implicitDefEqProofs (disch:=omega) only[go_sem,undef]
   refine AW.sr envOk (fun N hN=> ?_)
   simp-dsimp-implicitDefEqProofs (disch:=omega) only[go_sem,undef,resF,fp,w64,bne_self_eq_false,beq_self_eq_true,Bool.not_true,Bool.not_false]
   refine AC.pure (.lent (hlk) (.cons hg2.vw (.cons (.refl _) .nil)) (.b _)) ?_
   try simp-dsimp-implicitDefEqProofs (disch:=omega) only[go_sem,undef,resF,fp,w64,bne_self_eq_false,beq_self_eq_true,Bool.not_true,Bool.not_false]
   refine hN _ ?_
   try clear hN N
   refine AW.ret ?_
   simp-dsimp-implicitDefEqProofs (disch:=omega) only[go_sem,undef]
   skip
  ·skip
   rw[fpT_n hq]at hi hs
   rw[tf_f hq]at hf
   try simp-dsimp-implicitDefEqProofs (disch:=omega) only[go_sem,undef,fp,w64]
   refine hN _ ?_
   try clear hN N
   refine AW.freezeQ 3 (nx+1+2+2) _ rfl (upd_same _ _ _) ?_
   simp-dsimp-implicitDefEqProofs (disch:=omega) only[go_sem,undef]
   refine AW.sr envOk (fun N hN=> ?_)
   simp-dsimp-implicitDefEqProofs (disch:=omega) only[go_sem,undef,resF,fp,w64,bne_self_eq_false,beq_self_eq_true,Bool.not_true,Bool.not_false]
   refine AC.pure (.of (hi)) ?_
   try simp-dsimp-implicitDefEqProofs (disch:=omega) only[go_sem,undef,resF,fp,w64,bne_self_eq_false,beq_self_eq_true,Bool.not_true,Bool.not_false]
   refine hN _ ?_
   try clear hN N
   refine AW.sr envOk (fun N hN=> ?_)
   simp-dsimp-implicitDefEqProofs (disch:=omega) only[go_sem,undef,resF,fp,w64,bne_self_eq_false,beq_self_eq_true,Bool.not_true,Bool.not_false]
   refine AC.pure (.of (hs)) ?_
   try simp-dsimp-implicitDefEqProofs (disch:=omega) only[go_sem,undef,resF,fp,w64,bne_self_eq_false,beq_self_eq_true,Bool.not_true,Bool.not_false]
   refine hN _ ?_
   try clear hN N
   refine AW.seq (fun N4 hN4=> ?_)
   refine AW.sr envOk (fun N hN=> ?_)
   simp-dsimp-implicitDefEqProofs (disch:=omega) only[go_sem,undef,resF,fp,w64,bne_self_eq_false,beq_self_eq_true,Bool.not_true,Bool.not_false]
   refine hN _ ?_
   try clear hN N
   refine AW.condF rfl ?_
   refine AW.skip ?_
   simp only[thn,blk]
   refine hN4 _ ?_
   try clear hN4 N4
   refine AW.seq (fun N5 hN5=> ?_)
   refine AW.sr envOk (fun N hN=> ?_)
   simp-dsimp-implicitDefEqProofs (disch:=omega) only[go_sem,undef,resF,fp,w64,bne_self_eq_false,beq_self_eq_true,Bool.not_true,Bool.not_false]
   refine hN _ ?_
   try clear hN N
   refine AW.condT rfl ?_
   refine AW.sr envOk (fun N hN=> ?_)
   simp-dsimp-implicitDefEqProofs (disch:=omega) only[go_sem,undef,resF,fp,w64,bne_self_eq_false,beq_self_eq_true,Bool.not_true,Bool.not_false]
   refine AC.pure (.of (hf)) ?_
   try simp-dsimp-implicitDefEqProofs (disch:=omega) only[go_sem,undef,resF,fp,w64,bne_self_eq_false,beq_self_eq_true,Bool.not_true,Bool.not_false]
   refine hN _ ?_
   try clear hN N
   refine AW.ret ?_
   simp-dsimp-implicitDefEqProofs (disch:=omega) only[go_sem,undef]
   skip
end Go.Proofs.YtlcddiojeghfgaaGreatDoor
