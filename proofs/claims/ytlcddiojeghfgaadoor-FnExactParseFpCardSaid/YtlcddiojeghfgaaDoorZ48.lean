import Derived.Test.YtlcddiojeghfgaaDoorZ13
import Derived.Test.YtlcddiojeghfgaaDoorZ26
set_option linter.unusedVariables false
set_option linter.unusedSimpArgs false
namespace Go.Proofs.YtlcddiojeghfgaaDoor
open Nat (reduceAdd reduceSub reduceGT reduceEqDiff reduceMul)
theorem Ow.fp_inv {H:HP} {r:AV} {g:Int} {rs:List (List Int)} {ids:List Nat} (h:Ow H r (Go.Proofs.YtlcddiojeghfgaaDoor.fp g rs) ids):∃r1,r= .g [.i .i64 g,r1]∧Ow H r1 (rows rs) ids:=by
  unfold Go.Proofs.YtlcddiojeghfgaaDoor.fp at h
  generalize hX:AV.g [AV.i .i64 g,rows rs]=X at h
  cases h with
  | leaf _ hf hn=>
    subst hX
    cases hf with|g _ hf=>cases hn with|g _ hn=>exact⟨rows rs,rfl,.leaf _ (hf 1 _ rfl) (hn 1 _ rfl)⟩
  |nl=>cases hX
  |h id cs ts ids' h1 h2=>cases hX
  |q id cs ts ids' h1 h2=>cases hX
  | g cs ts ids' h2=>
    cases hX
    cases h2 with|cons x0 _ xs _ i0 j0 g1 g2=>cases g2 with|cons x1 _ xs _ i1 j1 g3 g4=>
      cases g4
      cases g1 with|leaf _ _ _=>exact⟨x1,rfl,by simpa using g3⟩
  |t cs ts ids' h2=>cases hX
theorem Hold.fp {H:HP} {lo hi:Nat} {r:AV} {g:Int} {rs:List (List Int)} (h:Hold H lo hi r (Go.Proofs.YtlcddiojeghfgaaDoor.fp g rs)):
    ∃r1,r= .g [.i .i64 g,r1]∧one r1=true∧Hold H lo hi (.g [.i .i64 g,r1]) (Go.Proofs.YtlcddiojeghfgaaDoor.fp g rs):=by
  obtain⟨ids,h1,h2,h3⟩:=h
  obtain⟨r1,rfl,h5⟩:=h1.fp_inv
  exact⟨r1,rfl,one_ow h5,ids,h1,h2,h3⟩
theorem markF_x (g:Int) (rs:List (List Int)) (hr:rowslen rs) (r1:AV) (is:List Nat) (k:Int) (nx:Nat) (H:HP) (o1:Ow H r1 (rows rs) is) (hnd:is.Nodup) (hlt:∀i∈is,i<nx) (hk0:0≤k) (hk1:k≤100000000000000000):
 AC Tryd.prog 7 nx H [.g [.i .i64 g,r1],.i .i64 k] (fun _ H' res=>res= .i .i64 (k+tot rs)∧(∃is',Ow H' r1 (rows (mks2 k rs)) is'∧is'.Nodup∧∀i∈is',i∈is)∧∀i,i∉is→H' i=H i):=by
 have u1:=one_ow o1
 refine AC.introx envOk Tryd.func7 rfl (by kernel_rfl) Tryd.ntmps7 Tryd.results7 (fun hfr cX=> ?_)
 refine AW.sr envOk (fun N hN=> ?_)
 simp-dsimp-implicitDefEqProofs (disch:=omega) only[go_sem,undef,u1]
 refine hN _ ?_
 try clear hN N
 refine AW.sr envOk (fun N hN=> ?_)
 simp-dsimp-implicitDefEqProofs (disch:=omega) only[go_sem,undef,u1]
 refine(markRR_o hr (o1.keep (fun i hi=> ?_)) hnd hk0 (by omega)).mono2 ?_
 ·have:=hlt i hi;exact upd_ne _ _ (by omega)
 rintro nx1 H1 res hx1 ⟨rfl,⟨is1,w1,w2,w3⟩,hH1⟩
 try simp-dsimp-implicitDefEqProofs (disch:=omega) only[go_sem,undef,u1]
 refine hN _ ?_
 try clear hN N
 refine AW.sr envOk (fun N hN=> ?_)
 simp-dsimp-implicitDefEqProofs (disch:=omega) only[go_sem,undef,u1]
 refine hN _ ?_
 try clear hN N
 refine AW.ret ?_
 simp-dsimp-implicitDefEqProofs (disch:=omega) only[go_sem,undef]
 have hc:∀i,i<nx→cut nx H1 i=H1 i:=fun i hi=>by unfold cut;rw[if_pos hi]
 refine⟨cut nx H1,cut_le _ _,⟨is1,w1.keep fun i hi=>hc i (hlt i (w3 i hi)),w2,w3⟩,fun i hi=> ?_⟩
 unfold cut
 split
 ·rw[hH1 i hi];exact upd_ne _ _ (by omega)
 ·rw[hfr i (by omega)]
theorem markF_g {g:Int} {rs:List (List Int)} (hr:rowslen rs) {nx:Nat} {H:HP} {r1:AV} {lo hi:Nat} {k:Int} (h:Hold H lo hi (.g [.i .i64 g,r1]) (fp g rs)) (hn:hi≤nx) (h0:0≤k) (h1:k≤100000000000000000):
    AC Tryd.prog 7 nx H [.g [.i .i64 g,r1],.i .i64 k] (fun _ H' res=>res= .i .i64 (k+tot rs)∧Hold H' lo hi (.g [.i .i64 g,r1]) (fp g (mks2 k rs))∧∀i,(i<lo∨hi≤i)→H' i=H i):=by
  obtain⟨ids,g1,g2,g3⟩:=h
  obtain⟨s1,e,o1⟩:=g1.fp_inv
  cases e
  refine(markF_x g rs hr r1 ids k nx H o1 g2 (fun i hi=>by have:=g3 i hi;omega) h0 h1).mono ?_
  rintro _ H' res ⟨rfl,⟨is',w1,w3,w4⟩,hH⟩
  refine⟨rfl,⟨[]++(is'++[]),.g _ _ _ (.cons _ _ _ _ [] _ (.leaf _ (.i _ _) (.i _ _)) (.cons _ _ _ _ _ _ w1 .nil)),by simpa using w3,fun i hi=>g3 i (w4 i (by simpa using hi))⟩,fun i hi=>hH i (fun hm=>by have:=g3 i hm;omega)⟩
theorem heldF_g {g:Int} {rs:List (List Int)} (hr:rowslen rs) {k:Int} (hk0:0≤k) (hk1:k≤100000000000000000):ACp Tryd.prog 8 [fp g (mks2 k rs),.i .i64 k] (.i .i64 (k+tot rs)):=by
 refine ACp.intro' envOk Tryd.func8 rfl (by kernel_rfl) Tryd.ntmps8 Tryd.results8 (.i _ _) (fun nx cX=> ?_)
 refine AW.sr envOk (fun N hN=> ?_)
 simp-dsimp-implicitDefEqProofs (disch:=omega) only[go_sem,undef,fp,w64]
 refine hN _ ?_
 try clear hN N
 refine AW.sr envOk (fun N hN=> ?_)
 simp-dsimp-implicitDefEqProofs (disch:=omega) only[go_sem,undef,fp,w64]
 refine AC.pure (.of (heldRR_g hr hk0 (by omega))) ?_
 try simp-dsimp-implicitDefEqProofs (disch:=omega) only[go_sem,undef,fp,w64]
 refine hN _ ?_
 try clear hN N
 refine AW.seq (fun N1 hN1=> ?_)
 refine AW.sr envOk (fun N hN=> ?_)
 simp-dsimp-implicitDefEqProofs (disch:=omega) only[go_sem,undef,fp,w64]
 refine hN _ ?_
 try clear hN N
 refine AW.cond rfl (fun h1=> ?_) (fun h1=> ?_)
 ·try simp only[cn]at h1
  refine AW.sr envOk (fun N hN=> ?_)
  simp-dsimp-implicitDefEqProofs (disch:=omega) only[go_sem,undef,fp,w64]
  refine hN _ ?_
  try clear hN N
  refine AW.ret ?_
  simp-dsimp-implicitDefEqProofs (disch:=omega) only[go_sem,undef]
  exfalso;omega
 ·try simp only[cn]at h1
  refine AW.skip ?_
  simp only[thn,blk]
  refine hN1 _ ?_
  try clear hN1 N1
  refine AW.sr envOk (fun N hN=> ?_)
  simp-dsimp-implicitDefEqProofs (disch:=omega) only[go_sem,undef,fp,w64]
  refine hN _ ?_
  try clear hN N
  refine AW.ret ?_
  simp-dsimp-implicitDefEqProofs (disch:=omega) only[go_sem,undef]
  try rfl
theorem laws_eqFpGroup_r (g:Int) (rs:List (List Int)) (hr:rowslen rs):ACp Tryd.prog 6 [fp g rs,fp g rs] (.b (decide (rs=rs))):=by
 refine ACp.intro' envOk Tryd.func6 rfl (by kernel_rfl) Tryd.ntmps6 Tryd.results6 (.b _) (fun nx cX=> ?_)
 refine AW.sr envOk (fun N hN=> ?_)
 simp-dsimp-implicitDefEqProofs (disch:=omega) only[go_sem,undef,fp,rows,w64,bne_self_eq_false]
 refine hN _ ?_
 try clear hN N
 refine AW.seq (fun N1 hN1=> ?_)
 refine AW.sr envOk (fun N hN=> ?_)
 simp-dsimp-implicitDefEqProofs (disch:=omega) only[go_sem,undef,fp,rows,w64,bne_self_eq_false]
 refine hN _ ?_
 try clear hN N
 refine AW.cond rfl (fun h1=> ?_) (fun h1=> ?_)
 ·try simp only[cn]at h1
  refine AW.sr envOk (fun N hN=> ?_)
  simp-dsimp-implicitDefEqProofs (disch:=omega) only[go_sem,undef,fp,rows,w64,bne_self_eq_false]
  refine hN _ ?_
  try clear hN N
  refine AW.ret ?_
  simp-dsimp-implicitDefEqProofs (disch:=omega) only[go_sem,undef]
  try (exfalso;simp_all;done)
 ·try simp only[cn]at h1
  refine AW.skip ?_
  simp only[thn,blk]
  refine hN1 _ ?_
  try clear hN1 N1
  refine AW.seq (fun N2 hN2=> ?_)
  refine AW.sr envOk (fun N hN=> ?_)
  simp-dsimp-implicitDefEqProofs (disch:=omega) only[go_sem,undef,fp,rows,w64,bne_self_eq_false]
  refine AC.pure (.of (laws_eqInt64SS_l rs rs hr hr)) ?_
  try simp-dsimp-implicitDefEqProofs (disch:=omega) only[go_sem,undef,fp,rows,w64,bne_self_eq_false]
  refine hN _ ?_
  try clear hN N
  refine AW.cond rfl (fun h2=> ?_) (fun h2=> ?_)
  ·try simp only[cn]at h2
   refine AW.sr envOk (fun N hN=> ?_)
   simp-dsimp-implicitDefEqProofs (disch:=omega) only[go_sem,undef,fp,rows,w64,bne_self_eq_false]
   refine hN _ ?_
   try clear hN N
   refine AW.ret ?_
   simp-dsimp-implicitDefEqProofs (disch:=omega) only[go_sem,undef]
   try (exfalso;simp_all;done)
  ·try simp only[cn]at h2
   refine AW.skip ?_
   simp only[thn,blk]
   refine hN2 _ ?_
   try clear hN2 N2
   refine AW.sr envOk (fun N hN=> ?_)
   simp-dsimp-implicitDefEqProofs (disch:=omega) only[go_sem,undef,fp,rows,w64,bne_self_eq_false]
   refine hN _ ?_
   try clear hN N
   refine AW.ret ?_
   simp-dsimp-implicitDefEqProofs (disch:=omega) only[go_sem,undef]
   try simp
end Go.Proofs.YtlcddiojeghfgaaDoor
