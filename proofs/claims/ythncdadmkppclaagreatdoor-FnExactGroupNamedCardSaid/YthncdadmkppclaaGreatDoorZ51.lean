import Derived.Test.YthncdadmkppclaaGreatDoorZ48
import Derived.Test.YthncdadmkppclaaGreatDoorZ50
set_option linter.unusedVariables false
set_option linter.unusedSimpArgs false
namespace Go.Proofs.YthncdadmkppclaaGreatDoor
open Nat (reduceAdd reduceSub reduceGT reduceEqDiff reduceMul)
theorem markI_o {a:List Int} (hok:a.length≤1048576) {nx:Nat} {H:HP} {r:AV} {ids:List Nat} {k:Int} (h:Ow H r (ints a) ids) (hnd:ids.Nodup) (h0:0≤k) (h1:k≤1000000000000):
    AC Tryz.prog 19 nx H [r,.i .i64 k] (fun _ H' res=>res= .i .i64 (k+a.length)∧(∃ids',Ow H' r (ints (mks k a.length)) ids'∧ids'.Nodup∧∀i∈ids',i∈ids)∧∀i,i∉ids→H' i=H i):=by
  rcases h.ints_inv with ⟨rfl,rfl|rfl⟩|⟨id,rfl,hid,hH⟩
  · exact(laws_markInt64S_nl k nx H).mono (fun _ _ _ ⟨h1,h2⟩=>by subst h1;subst h2;exact⟨by simp,⟨[],.nl,by simp,by simp⟩,fun _ _=>rfl⟩)
  · exact(laws_markInt64S_v0 k nx H).mono (fun _ _ _ ⟨h1,h2⟩=>by subst h1;subst h2;exact⟨by simp,⟨[],(show Ow _ (.v 0 []) (ints (mks k 0)) []from .leaf _ .v0 (.v _ _ (by simp))),by simp,by simp⟩,fun _ _=>rfl⟩)
  · refine(laws_markInt64S_h id a.length _ k nx H hH hok h0 (by omega)).mono (fun _ _ _ ⟨h1,h2⟩=> ?_)
    subst h1;subst h2
    refine⟨rfl,⟨[id],Ow.ints (by rw[upd_same,mks,vec_map]) mks_len.symm,by simp,fun i hi=>by rw[List.mem_singleton.1 hi];exact hid⟩,fun i hi=>upd_ne _ _ (fun e=>hi (by rw[e];exact hid))⟩
theorem heldP_g {os:List Int} {pw:List (List Int)} {cj:List (List (List Int))} (hos:os.length≤1048576) (hpw:rowslen pw) (hcj:cubesml cj) (htt:tot pw≤1000000000000) {k:Int} (hk0:0≤k) (hk1:k≤1000000000000):ACp Tryz.prog 9 [prs (mks k os.length) (mks2 (k+os.length) pw) (mks3 (k+os.length+tot pw) cj),.i .i64 k] (.i .i64 (k+os.length+tot pw+tot3 cj)):=by
 refine ACp.intro' envOk Tryz.func9 rfl (by kernel_rfl) Tryz.ntmps9 Tryz.results9 (.i _ _) (fun nx cX=> ?_)
 refine AW.sr envOk (fun N hN=> ?_)
 simp-dsimp-implicitDefEqProofs (disch:=omega) only[go_sem,undef,prs,w64]
 refine hN _ ?_
 try clear hN N
 refine AW.sr envOk (fun N hN=> ?_)
 simp-dsimp-implicitDefEqProofs (disch:=omega) only[go_sem,undef,prs,w64]
 refine AC.pure (.of (held_g hos hk0 (by omega))) ?_
 try simp-dsimp-implicitDefEqProofs (disch:=omega) only[go_sem,undef,prs,w64]
 refine hN _ ?_
 try clear hN N
 refine AW.seq (fun N1 hN1=> ?_)
 refine AW.sr envOk (fun N hN=> ?_)
 simp-dsimp-implicitDefEqProofs (disch:=omega) only[go_sem,undef,prs,w64]
 refine hN _ ?_
 try clear hN N
 refine AW.cond rfl (fun h1=> ?_) (fun h1=> ?_)
 ·try simp only[cn]at h1
  refine AW.sr envOk (fun N hN=> ?_)
  simp-dsimp-implicitDefEqProofs (disch:=omega) only[go_sem,undef,prs,w64]
  refine hN _ ?_
  try clear hN N
  refine AW.ret ?_
  simp-dsimp-implicitDefEqProofs (disch:=omega) only[go_sem,undef]
  exfalso;omega
 ·try simp only[cn]at h1
  refine AW.skip ?_
  simp only[thn,blk]
  refine hN1 _ ?_
  try clear hN1 N1
  refine AW.sr envOk (fun N hN=> ?_)
  simp-dsimp-implicitDefEqProofs (disch:=omega) only[go_sem,undef,prs,w64]
  refine AC.pure (.of (heldRR_g hpw (by omega) (by omega))) ?_
  try simp-dsimp-implicitDefEqProofs (disch:=omega) only[go_sem,undef,prs,w64]
  refine hN _ ?_
  try clear hN N
  refine AW.seq (fun N2 hN2=> ?_)
  refine AW.sr envOk (fun N hN=> ?_)
  simp-dsimp-implicitDefEqProofs (disch:=omega) only[go_sem,undef,prs,w64]
  refine hN _ ?_
  try clear hN N
  refine AW.cond rfl (fun h2=> ?_) (fun h2=> ?_)
  ·try simp only[cn]at h2
   refine AW.sr envOk (fun N hN=> ?_)
   simp-dsimp-implicitDefEqProofs (disch:=omega) only[go_sem,undef,prs,w64]
   refine hN _ ?_
   try clear hN N
   refine AW.ret ?_
   simp-dsimp-implicitDefEqProofs (disch:=omega) only[go_sem,undef]
   exfalso;omega
  ·try simp only[cn]at h2
   refine AW.skip ?_
   simp only[thn,blk]
   refine hN2 _ ?_
   try clear hN2 N2
   refine AW.sr envOk (fun N hN=> ?_)
   simp-dsimp-implicitDefEqProofs (disch:=omega) only[go_sem,undef,prs,w64]
   refine AC.pure (.of (heldCC_g hcj (by omega) (by omega))) ?_
   try simp-dsimp-implicitDefEqProofs (disch:=omega) only[go_sem,undef,prs,w64]
   refine hN _ ?_
   try clear hN N
   refine AW.seq (fun N3 hN3=> ?_)
   refine AW.sr envOk (fun N hN=> ?_)
   simp-dsimp-implicitDefEqProofs (disch:=omega) only[go_sem,undef,prs,w64]
   refine hN _ ?_
   try clear hN N
   refine AW.cond rfl (fun h3=> ?_) (fun h3=> ?_)
   ·try simp only[cn]at h3
    refine AW.sr envOk (fun N hN=> ?_)
    simp-dsimp-implicitDefEqProofs (disch:=omega) only[go_sem,undef,prs,w64]
    refine hN _ ?_
    try clear hN N
    refine AW.ret ?_
    simp-dsimp-implicitDefEqProofs (disch:=omega) only[go_sem,undef]
    exfalso;omega
   ·try simp only[cn]at h3
    refine AW.skip ?_
    simp only[thn,blk]
    refine hN3 _ ?_
    try clear hN3 N3
    refine AW.sr envOk (fun N hN=> ?_)
    simp-dsimp-implicitDefEqProofs (disch:=omega) only[go_sem,undef,prs,w64]
    refine hN _ ?_
    try clear hN N
    refine AW.ret ?_
    simp-dsimp-implicitDefEqProofs (disch:=omega) only[go_sem,undef]
    try rfl
theorem markP_xm (os:List Int) (pw:List (List Int)) (cj:List (List (List Int))) (hos:os.length≤1048576) (hpw:rowslen pw) (hcj:cubesml cj) (htt:tot pw≤1000000000000) (r1 r2 r3:AV) (is js ks:List Nat) (k:Int) (nx:Nat) (H:HP) (o1:Ow H r1 (ints os) is) (o2:Ow H r2 (rows pw) js) (o3:Ow H r3 (cubes cj) ks) (hnd:(is++(js++ks)).Nodup) (hlt:∀i∈is++(js++ks),i<nx) (hk0:0≤k) (hk1:k≤1000000000000):
 AC Tryz.prog 8 nx H [.g [r1,r2,r3],.i .i64 k] (fun _ H' res=>res= .i .i64 (k+os.length+tot pw+tot3 cj)∧(∃is' js' ks',Ow H' r1 (ints (mks k os.length)) is'∧Ow H' r2 (rows (mks2 (k+os.length) pw)) js'∧Ow H' r3 (cubes (mks3 (k+os.length+tot pw) cj)) ks'∧(is'++(js'++ks')).Nodup∧∀i∈is'++(js'++ks'),i∈is++(js++ks))∧∀i,i∉is++(js++ks)→H' i=H i):=by
 obtain⟨n1,n2,n3⟩:=List.nodup_append.1 hnd
 obtain⟨n4,n5,n6⟩:=List.nodup_append.1 n2
 have u1:=one_ow o1
 have u2:=one_ow o2
 have u3:=one_ow o3
 refine AC.introx envOk Tryz.func8 rfl (by kernel_rfl) Tryz.ntmps8 Tryz.results8 (fun hfr cX=> ?_)
 refine AW.sr envOk (fun N hN=> ?_)
 simp-dsimp-implicitDefEqProofs (disch:=omega) only[go_sem,undef,u1,u2,u3]
 refine hN _ ?_
 try clear hN N
 refine AW.sr envOk (fun N hN=> ?_)
 simp-dsimp-implicitDefEqProofs (disch:=omega) only[go_sem,undef,u1,u2,u3]
 refine(markI_o hos (o1.keep (fun i hi=> ?_)) n1 hk0 (by omega)).mono2 ?_
 ·have:=hlt i (by simp[hi]);exact upd_ne _ _ (by omega)
 rintro nx1 H1 res hx1 ⟨rfl,⟨is1,w1,w2,w3⟩,hH1⟩
 have hb:H1 nx=some [r1,r2,r3]:=by rw[hH1 nx (fun h=>by have:=hlt nx (by simp[h]);omega),upd_same]
 try simp-dsimp-implicitDefEqProofs (disch:=omega) only[go_sem,undef,u1,u2,u3]
 refine hN _ ?_
 try clear hN N
 refine AW.sr envOk (fun N hN=> ?_)
 simp-dsimp-implicitDefEqProofs (disch:=omega) only[go_sem,undef,u1,u2,u3]
 try simp-dsimp-implicitDefEqProofs (disch:=omega) only[go_sem,undef,hb]
 refine(markRR_o hpw (o2.keep (fun i hi=> ?_)) n4 (by omega) (by omega)).mono2 ?_
 ·rw[hH1 i (fun h=>n3 i h i (by simp[hi]) rfl)]
  have:=hlt i (by simp[hi]);exact upd_ne _ _ (by omega)
 rintro nx2 H2 res hx2 ⟨rfl,⟨js1,w4,w5,w6⟩,hH2⟩
 have hb2:H2 nx=some [r1,r2,r3]:=by rw[hH2 nx (fun h=>by have:=hlt nx (by simp[h]);omega),hb]
 try simp-dsimp-implicitDefEqProofs (disch:=omega) only[go_sem,undef,u1,u2,u3]
 refine hN _ ?_
 try clear hN N
 refine AW.sr envOk (fun N hN=> ?_)
 simp-dsimp-implicitDefEqProofs (disch:=omega) only[go_sem,undef,u1,u2,u3]
 try simp-dsimp-implicitDefEqProofs (disch:=omega) only[go_sem,undef,hb2]
 refine(markCC_o hcj (o3.keep (fun i hi=> ?_)) n5 (by omega) (by omega)).mono2 ?_
 ·rw[hH2 i (fun h=>n6 i h i hi rfl),hH1 i (fun h=>n3 i h i (by simp[hi]) rfl)]
  have:=hlt i (by simp[hi]);exact upd_ne _ _ (by omega)
 rintro nx3 H3 res hx3 ⟨rfl,⟨ks1,w7,w8,w9⟩,hH3⟩
 try simp-dsimp-implicitDefEqProofs (disch:=omega) only[go_sem,undef,u1,u2,u3]
 refine hN _ ?_
 try clear hN N
 refine AW.sr envOk (fun N hN=> ?_)
 simp-dsimp-implicitDefEqProofs (disch:=omega) only[go_sem,undef,u1,u2,u3]
 refine hN _ ?_
 try clear hN N
 refine AW.ret ?_
 simp-dsimp-implicitDefEqProofs (disch:=omega) only[go_sem,undef]
 have hc:∀i,i<nx→cut nx H3 i=H3 i:=fun i hi=>by unfold cut;rw[if_pos hi]
 refine⟨cut nx H3,cut_le _ _,⟨is1,js1,ks1,w1.keep fun i hi=> ?_,w4.keep fun i hi=> ?_,w7.keep fun i hi=>hc i (hlt i (by simp[w9 i hi])),?_,?_⟩,fun i hi=> ?_⟩
 ·rw[hc i (hlt i (by simp[w3 i hi])),hH3 i (fun h=>n3 i (w3 i hi) i (by simp[h]) rfl)]
  exact hH2 i (fun h=>n3 i (w3 i hi) i (by simp[h]) rfl)
 ·rw[hc i (hlt i (by simp[w6 i hi]))]
  exact hH3 i (fun h=>n6 i (w6 i hi) i h rfl)
 ·grind
 ·grind
 ·unfold cut
  split
  ·rw[hH3 i (fun h=>hi (by simp[h])),hH2 i (fun h=>hi (by simp[h])),hH1 i (fun h=>hi (by simp[h]))]
   exact upd_ne _ _ (by omega)
  ·rw[hfr i (by omega)]
theorem markP_m {os:List Int} {pw:List (List Int)} {cj:List (List (List Int))} (hos:os.length≤1048576) (hpw:rowslen pw) (hcj:cubesml cj) (htt:tot pw≤1000000000000) {nx:Nat} {H:HP} {r1 r2 r3:AV} {lo hi:Nat} {k:Int} (h:Hold H lo hi (.g [r1,r2,r3]) (prs os pw cj)) (hn:hi≤nx) (h0:0≤k) (h1:k≤1000000000000):
    AC Tryz.prog 8 nx H [.g [r1,r2,r3],.i .i64 k] (fun _ H' res=>res= .i .i64 (k+os.length+tot pw+tot3 cj)∧Hold H' lo hi (.g [r1,r2,r3]) (prs (mks k os.length) (mks2 (k+os.length) pw) (mks3 (k+os.length+tot pw) cj))∧∀i,(i<lo∨hi≤i)→H' i=H i):=by
  obtain⟨ids,g1,g2,g3⟩:=h
  obtain⟨s1,s2,s3,is,js,ks,e,rfl,o1,o2,o3⟩:=g1.prs_inv
  cases e
  refine(markP_xm os pw cj hos hpw hcj htt r1 r2 r3 is js ks k nx H o1 o2 o3 g2 (fun i hi=>by have:=g3 i hi;omega) h0 h1).mono ?_
  rintro _ H' res ⟨rfl,⟨is',js',ks',w1,w2,w3,w4,w5⟩,hH⟩
  refine⟨rfl,⟨is'++(js'++(ks'++[])),.g _ _ _ (.cons _ _ _ _ _ _ w1 (.cons _ _ _ _ _ _ w2 (.cons _ _ _ _ _ _ w3 .nil))),by simpa using w4,fun i hi=>g3 i (w5 i (by simpa using hi))⟩,fun i hi=>hH i (fun hm=>by have:=g3 i hm;omega)⟩
theorem laws_eqPresentation_r (os:List Int) (pw:List (List Int)) (cj:List (List (List Int))) (h1:os.length≤1048576) (q1:rowslen pw) (q2:cubeslen cj):ACp Tryz.prog 7 [prs os pw cj,prs os pw cj] (.b (decide (pw=pw))):=by
 refine ACp.intro' envOk Tryz.func7 rfl (by kernel_rfl) Tryz.ntmps7 Tryz.results7 (.b _) (fun nx cX=> ?_)
 refine AW.sr envOk (fun N hN=> ?_)
 simp-dsimp-implicitDefEqProofs (disch:=omega) only[go_sem,undef,prs,w64]
 refine hN _ ?_
 try clear hN N
 refine AW.seq (fun N1 hN1=> ?_)
 refine AW.sr envOk (fun N hN=> ?_)
 simp-dsimp-implicitDefEqProofs (disch:=omega) only[go_sem,undef,prs,w64]
 refine AC.pure (.of (laws_eqInt64S_ok os os (by omega) (by omega))) ?_
 try simp-dsimp-implicitDefEqProofs (disch:=omega) only[go_sem,undef,prs,w64]
 refine hN _ ?_
 try clear hN N
 refine AW.cond rfl (fun h1=> ?_) (fun h1=> ?_)
 ·try simp only[cn]at h1
  refine AW.sr envOk (fun N hN=> ?_)
  simp-dsimp-implicitDefEqProofs (disch:=omega) only[go_sem,undef,prs,w64]
  refine hN _ ?_
  try clear hN N
  refine AW.ret ?_
  simp-dsimp-implicitDefEqProofs (disch:=omega) only[go_sem,undef]
  try (first|(exfalso;simp_all;done)|simp)
 ·try simp only[cn]at h1
  refine AW.skip ?_
  simp only[thn,blk]
  refine hN1 _ ?_
  try clear hN1 N1
  refine AW.seq (fun N2 hN2=> ?_)
  refine AW.sr envOk (fun N hN=> ?_)
  simp-dsimp-implicitDefEqProofs (disch:=omega) only[go_sem,undef,prs,w64]
  refine AC.pure (.of (laws_eqInt64SS_l pw pw q1 q1)) ?_
  try simp-dsimp-implicitDefEqProofs (disch:=omega) only[go_sem,undef,prs,w64]
  refine hN _ ?_
  try clear hN N
  refine AW.cond rfl (fun h2=> ?_) (fun h2=> ?_)
  ·try simp only[cn]at h2
   refine AW.sr envOk (fun N hN=> ?_)
   simp-dsimp-implicitDefEqProofs (disch:=omega) only[go_sem,undef,prs,w64]
   refine hN _ ?_
   try clear hN N
   refine AW.ret ?_
   simp-dsimp-implicitDefEqProofs (disch:=omega) only[go_sem,undef]
   try (first|(exfalso;simp_all;done)|simp)
  ·try simp only[cn]at h2
   refine AW.skip ?_
   simp only[thn,blk]
   refine hN2 _ ?_
   try clear hN2 N2
   refine AW.seq (fun N3 hN3=> ?_)
   refine AW.sr envOk (fun N hN=> ?_)
   simp-dsimp-implicitDefEqProofs (disch:=omega) only[go_sem,undef,prs,w64]
   refine AC.pure (.of (laws_eqInt64SSS_l cj cj q2 q2)) ?_
   try simp-dsimp-implicitDefEqProofs (disch:=omega) only[go_sem,undef,prs,w64]
   refine hN _ ?_
   try clear hN N
   refine AW.cond rfl (fun h3=> ?_) (fun h3=> ?_)
   ·try simp only[cn]at h3
    refine AW.sr envOk (fun N hN=> ?_)
    simp-dsimp-implicitDefEqProofs (disch:=omega) only[go_sem,undef,prs,w64]
    refine hN _ ?_
    try clear hN N
    refine AW.ret ?_
    simp-dsimp-implicitDefEqProofs (disch:=omega) only[go_sem,undef]
    try (first|(exfalso;simp_all;done)|simp)
   ·try simp only[cn]at h3
    refine AW.skip ?_
    simp only[thn,blk]
    refine hN3 _ ?_
    try clear hN3 N3
    refine AW.sr envOk (fun N hN=> ?_)
    simp-dsimp-implicitDefEqProofs (disch:=omega) only[go_sem,undef,prs,w64]
    refine hN _ ?_
    try clear hN N
    refine AW.ret ?_
    simp-dsimp-implicitDefEqProofs (disch:=omega) only[go_sem,undef]
    try (first|(exfalso;simp_all;done)|simp)
end Go.Proofs.YthncdadmkppclaaGreatDoor
