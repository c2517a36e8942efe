import Derived.Handed
import Derived.Below
import Derived.Shelf.Vars
import Derived.Test.YtlcddiojeghfgaaDoorZ47
import Derived.Test.YtlcddiojeghfgaaDoorZ48
set_option linter.unusedVariables false
set_option linter.unusedSimpArgs false
namespace Go.Proofs.YtlcddiojeghfgaaDoor
open Nat (reduceAdd reduceSub reduceGT reduceEqDiff reduceMul)
theorem ACv.hold {vs:VL} {P:Program} {f:FuncId} {nx:Nat} {H:HP} {xs ts:List AV} {X:AV} {K:Nat→HP→AV→Prop} (h:ACov vs P f ts X) (hv:Vws H xs ts)
    (hk:∀nx' H' r,nx≤nx'→(∀i,i<nx→H' i=H i)→Hold H' nx nx' r X→K nx' H' r):ACv vs P f nx H xs K:=
  ACv.own h hv (fun nx' H' r ids h1 h2 h3=>hk nx' H' r h1 h2 ⟨ids,h3⟩)
theorem law_runV {vs:VL} {P:Program} {w:World} {f:FuncId} {xs:List AV} {us:Array Value} (hg:GVs vs w) (h:∀nx,ACv vs P f nx noH xs fun _ _ r=>r= .b true) (ha:ArgsR noL w noM xs us):Calls P f us w fun e w'=>e= .returned (.bool true)∧RowKit.Below w.heap.size w w':=by
  refine((h 0).2 noL noM w us (SR_noH (fun _ h=>h.elim)) (fun _ _=>rfl) (by rw[MM_noH];exact ha) (fun _ _=>LB_noH) hg).mono ?_
  rintro e w' ⟨u,r,L',nx',H',h1,rfl,_,_,_,_,h2,h3⟩
  rw[h3.b_inv]at h1
  exact⟨h1,h2.os,h2.tape,h2.output,h2.size,fun k hk=>h2.keep k hk LB_noH⟩
set_option maxHeartbeats 4000000 in
theorem law_ParseFp (s:ByteArray) {p:Prop} (_h:p):∀nx,ACv erV Tryd.prog 3 nx noH [.s s] (fun _ _ r=>r= .b true):=by
 intro nx
 obtain⟨l,rfl⟩:∃l,s=ofL l:=⟨s.data.toList,(ofL_to s).symm⟩
 refine ACv.intro envOk Tryd.func3 rfl (by kernel_rfl) Tryd.ntmps3 Tryd.results3 (fun cX hcg _ _=> ?_)
 refine AW.sr envOk (fun N hN=> ?_)
 simp-dsimp-implicitDefEqProofs (disch:=omega) only[go_sem,undef,resF,fp,w64]
 refine hN _ ?_
 try clear hN N
 refine AW.seq (fun N1 hN1=> ?_)
 refine AW.sr envOk (fun N hN=> ?_)
 simp-dsimp-implicitDefEqProofs (disch:=omega) only[go_sem,undef,resF,fp,w64,ofL_sz]
 refine hN _ ?_
 try clear hN N
 refine AW.cond rfl (fun h1=> ?_) (fun h1=> ?_)
 ·try simp only[cn]at h1
  refine AW.sr envOk (fun N hN=> ?_)
  simp-dsimp-implicitDefEqProofs (disch:=omega) only[go_sem,undef,resF,fp,w64]
  refine hN _ ?_
  try clear hN N
  refine AW.ret ?_
  simp-dsimp-implicitDefEqProofs (disch:=omega) only[go_sem,undef]
  skip
 ·try simp only[cn]at h1
  have hl:l.length≤1048576:=by omega
  obtain⟨M,hM⟩:∃M,fgM l=M:=⟨_,rfl⟩
  have hspec:=spec_ParseFp_ok l hl
  have himpl:=impl_ParseFp_o l hl
  have hML:=fgM_rl l
  rw[hM]at hspec himpl hML
  have heq:=laws_eqFpGroup_r M.1.1 M.1.2 hML
  rw[show decide (M.1.2=M.1.2)=true by simp]at heq
  refine AW.skip ?_
  simp only[thn,blk]
  refine hN1 _ ?_
  try clear hN1 N1
  refine AW.sr envOk (fun N hN=> ?_)
  simp-dsimp-implicitDefEqProofs (disch:=omega) only[go_sem,undef,resF,fp,w64]
  refine AC.pure (.of (hspec)) ?_
  try simp-dsimp-implicitDefEqProofs (disch:=omega) only[go_sem,undef,resF,fp,w64]
  refine hN _ ?_
  try clear hN N
  refine AW.freezeQ 3 (nx+1+3+5) _ rfl (upd_same _ _ _) ?_
  simp-dsimp-implicitDefEqProofs (disch:=omega) only[go_sem,undef]
  refine AW.seq (fun N hN=> ?_)
  refine AW.regionX envOk 1 _ rfl rfl ?_
  simp-dsimp-implicitDefEqProofs (disch:=omega) only[List.take_succ_cons,List.take_zero,List.drop_succ_cons,List.drop_zero,List.take_nil,List.drop_nil,go_sem,undef,resF,fp,w64]
  refine XC.callv hcg rfl ?_
  refine ACv.hold himpl (.cons (.refl _) .nil) ?_
  intro m5 H5 r_z hm5 hH5 ho_z
  obtain⟨g0,rfl,hg⟩:=ho_z.pair
  obtain⟨s1,rfl,v1,hg2⟩:=hg.fp
  dsimp only at hm5 hH5 hg2
  clear ho_z hg
  try simp-dsimp-implicitDefEqProofs (disch:=omega) only[go_sem,undef,fp,w64,v1,Bool.and_true]
  refine hN _ ?_
  try clear hN N
  refine AW.seq (fun N2 hN2=> ?_)
  refine AW.freezeQ 5 (nx+1+3+8+5) _ rfl (upd_same _ _ _) ?_
  refine AW.nameH (fun G6 hG6=> ?_)
  dsimp only at hG6
  replace hg2:=hg2.keep (H':=G6) (fun i q1 q2=>by rw[←hG6];simp(disch:=omega) only[upd_ne])
  simp-dsimp-implicitDefEqProofs (disch:=omega) only[go_sem,undef]
  refine AW.sr envOk (fun N hN=> ?_)
  simp-dsimp-implicitDefEqProofs (disch:=omega) only[go_sem,undef,resF,fp,w64]
  refine AC.pure (.lent (heq) (.cons hg2.vw (.cons (.refl _) .nil)) (.b _)) ?_
  try simp-dsimp-implicitDefEqProofs (disch:=omega) only[go_sem,undef,fp,w64,Bool.not_true,bne_self_eq_false]
  refine hN _ ?_
  try clear hN N
  refine AW.condF rfl ?_
  refine AW.skip ?_
  simp only[thn,blk]
  refine hN2 _ ?_
  try clear hN2 N2
  refine AW.sr envOk (fun N hN=> ?_)
  simp-dsimp-implicitDefEqProofs (disch:=omega) only[go_sem,undef,resF,fp,w64]
  refine hN _ ?_
  try clear hN N
  refine AW.sr envOk (fun N hN=> ?_)
  simp-dsimp-implicitDefEqProofs (disch:=omega) only[go_sem,undef,resF,fp,w64]
  refine(markF_g hML hg2 (by omega) (by omega) (by omega)).mono2 ?_
  rintro m11 H11 res hm11 ⟨rfl,hg3,hH11⟩
  try simp-dsimp-implicitDefEqProofs (disch:=omega) only[go_sem,undef,resF,fp,w64]
  refine hN _ ?_
  try clear hN N
  refine AW.sr envOk (fun N hN=> ?_)
  simp-dsimp-implicitDefEqProofs (disch:=omega) only[go_sem,undef,resF,fp,w64]
  refine hN _ ?_
  try clear hN N
  refine AW.sr envOk (fun N hN=> ?_)
  simp-dsimp-implicitDefEqProofs (disch:=omega) only[go_sem,undef,resF,fp,w64]
  refine AC.pure (.lent (heldF_g hML (by omega) (by omega)) (.cons hg3.vw (.cons (.refl _) .nil)) (.i _ _)) ?_
  try simp-dsimp-implicitDefEqProofs (disch:=omega) only[go_sem,undef,resF,fp,w64]
  refine hN _ ?_
  try clear hN N
  refine AW.seq (fun N3 hN3=> ?_)
  refine AW.sr envOk (fun N hN=> ?_)
  simp-dsimp-implicitDefEqProofs (disch:=omega) only[go_sem,undef,resF,fp,w64]
  refine hN _ ?_
  try clear hN N
  refine AW.cond rfl (fun h2=> ?_) (fun h2=> ?_)
  ·try simp only[cn]at h2
   omega
  ·try simp only[cn]at h2
   refine AW.skip ?_
   simp only[thn,blk]
   refine hN3 _ ?_
   try clear hN3 N3
   refine AW.seq (fun N4 hN4=> ?_)
   refine AW.sr envOk (fun N hN=> ?_)
   simp-dsimp-implicitDefEqProofs (disch:=omega) only[go_sem,undef,resF,fp,w64]
   refine hN _ ?_
   try clear hN N
   refine AW.cond rfl (fun h3=> ?_) (fun h3=> ?_)
   ·try simp only[cn]at h3
    simp at h3
   ·try simp only[cn]at h3
    refine AW.skip ?_
    simp only[thn,blk]
    refine hN4 _ ?_
    try clear hN4 N4
    refine AW.seq (fun N hN=> ?_)
    refine AW.regionX envOk 1 _ rfl rfl ?_
    simp-dsimp-implicitDefEqProofs (disch:=omega) only[List.take_succ_cons,List.take_zero,List.drop_succ_cons,List.drop_zero,List.take_nil,List.drop_nil,go_sem,undef,resF,fp,w64]
    refine XC.callv hcg rfl ?_
    refine ACv.hold himpl (.cons (.refl _) .nil) ?_
    intro m12 H12 r_z hm12 hH12 ho_z
    obtain⟨g0,rfl,hg⟩:=ho_z.pair
    obtain⟨s4,rfl,v4,hg4⟩:=hg.fp
    dsimp only at hm12 hH12 hg4
    clear ho_z hg
    replace hg3:=hg3.keep (H':=H12) (fun i q1 q2=>hH12 i (by omega))
    try simp-dsimp-implicitDefEqProofs (disch:=omega) only[go_sem,undef,fp,w64,v4,Bool.and_true]
    refine hN _ ?_
    try clear hN N
    refine AW.seq (fun N5 hN5=> ?_)
    refine AW.freezeQ 9 (m11+1+4+2+3+5) _ rfl (upd_same _ _ _) ?_
    refine AW.nameH (fun G13 hG13=> ?_)
    dsimp only at hG13
    replace hg3:=hg3.keep (H':=G13) (fun i q1 q2=>by rw[←hG13];simp(disch:=omega) only[upd_ne])
    replace hg4:=hg4.keep (H':=G13) (fun i q1 q2=>by rw[←hG13];simp(disch:=omega) only[upd_ne])
    simp-dsimp-implicitDefEqProofs (disch:=omega) only[go_sem,undef]
    refine AW.sr envOk (fun N hN=> ?_)
    simp-dsimp-implicitDefEqProofs (disch:=omega) only[go_sem,undef,resF,fp,w64]
    refine AC.pure (.lent (heq) (.cons hg4.vw (.cons (.refl _) .nil)) (.b _)) ?_
    try simp-dsimp-implicitDefEqProofs (disch:=omega) only[go_sem,undef,fp,w64,Bool.not_true,bne_self_eq_false]
    refine hN _ ?_
    try clear hN N
    refine AW.condF rfl ?_
    refine AW.skip ?_
    simp only[thn,blk]
    refine hN5 _ ?_
    try clear hN5 N5
    refine AW.sr envOk (fun N hN=> ?_)
    simp-dsimp-implicitDefEqProofs (disch:=omega) only[go_sem,undef,resF,fp,w64]
    refine hN _ ?_
    try clear hN N
    refine AW.sr envOk (fun N hN=> ?_)
    simp-dsimp-implicitDefEqProofs (disch:=omega) only[go_sem,undef,resF,fp,w64]
    refine AC.pure (.lent (heldF_g hML (by omega) (by omega)) (.cons hg3.vw (.cons (.refl _) .nil)) (.i _ _)) ?_
    try simp-dsimp-implicitDefEqProofs (disch:=omega) only[go_sem,undef,resF,fp,w64]
    refine hN _ ?_
    try clear hN N
    refine AW.seq (fun N6 hN6=> ?_)
    refine AW.sr envOk (fun N hN=> ?_)
    simp-dsimp-implicitDefEqProofs (disch:=omega) only[go_sem,undef,resF,fp,w64]
    refine hN _ ?_
    try clear hN N
    refine AW.cond rfl (fun h4=> ?_) (fun h4=> ?_)
    ·try simp only[cn]at h4
     omega
    ·try simp only[cn]at h4
     refine AW.skip ?_
     simp only[thn,blk]
     refine hN6 _ ?_
     try clear hN6 N6
     refine AW.seq (fun N7 hN7=> ?_)
     refine AW.sr envOk (fun N hN=> ?_)
     simp-dsimp-implicitDefEqProofs (disch:=omega) only[go_sem,undef,resF,fp,w64]
     refine hN _ ?_
     try clear hN N
     refine AW.cond rfl (fun h5=> ?_) (fun h5=> ?_)
     ·try simp only[cn]at h5
      simp at h5
     ·try simp only[cn]at h5
      refine AW.skip ?_
      simp only[thn,blk]
      refine hN7 _ ?_
      try clear hN7 N7
      refine AW.sr envOk (fun N hN=> ?_)
      simp-dsimp-implicitDefEqProofs (disch:=omega) only[go_sem,undef,resF,fp,w64]
      refine hN _ ?_
      try clear hN N
      refine AW.ret ?_
      simp-dsimp-implicitDefEqProofs (disch:=omega) only[go_sem,undef]
      skip
end Go.Proofs.YtlcddiojeghfgaaDoor
