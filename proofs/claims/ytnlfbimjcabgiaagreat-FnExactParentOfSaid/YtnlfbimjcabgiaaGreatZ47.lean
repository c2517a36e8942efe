import Derived.Test.YtnlfbimjcabgiaaGreatZ15
import Derived.Test.YtnlfbimjcabgiaaGreatZ25
import Derived.Test.YtnlfbimjcabgiaaGreatZ43
import Derived.Test.YtnlfbimjcabgiaaGreatZ46
set_option linter.unusedVariables false
set_option linter.unusedSimpArgs false
namespace Go.Proofs.YtnlfbimjcabgiaaGreat
open Nat (reduceAdd reduceSub reduceGT reduceEqDiff reduceMul)
noncomputable def cvC (os:List Int) (pw:List (List Int)) (cj:List (List (List Int))):Int:=if tf (grpP os pw cj)=true then (if tf (pgP os pw cj)=true then (if prd os os.length≤81 then 0 else 3)else 5)else 1
section
variable (os:List Int) (pw:List (List Int)) (cj:List (List (List Int)))
theorem cvC_1 (h:¬grpP os pw cj):cvC os pw cj=1:=by rw[cvC,tf_f h];rfl
theorem cvC_5 (h:grpP os pw cj) (h2:¬pgP os pw cj):cvC os pw cj=5:=by rw[cvC,tf_t h,if_pos rfl,tf_f h2];rfl
theorem cvC_3 (h:grpP os pw cj) (h2:pgP os pw cj) (h3:¬prd os os.length≤81):cvC os pw cj=3:=by rw[cvC,tf_t h,if_pos rfl,tf_t h2,if_pos rfl,if_neg h3]
theorem cvC_0 (h:grpP os pw cj) (h2:pgP os pw cj) (h3:prd os os.length≤81):cvC os pw cj=0:=by rw[cvC,tf_t h,if_pos rfl,tf_t h2,if_pos rfl,if_pos h3]
theorem cvC_z (h:cvC os pw cj=0):grpP os pw cj∧pgP os pw cj∧prd os os.length≤81:=by
  by_cases h1:grpP os pw cj
  · by_cases h2:pgP os pw cj
    · by_cases h3:prd os os.length≤81
      · exact⟨h1,h2,h3⟩
      · rw[cvC_3 os pw cj h1 h2 h3]at h;omega
    · rw[cvC_5 os pw cj h1 h2]at h;omega
  · rw[cvC_1 os pw cj h1]at h;omega
theorem impl_coverCode_ok (hl:prlen os pw cj):ACp Tryz.prog 40 [prsP os pw cj] (.i .i64 (cvC os pw cj)):=by
 have hlo:=hl.o
 refine ACp.intro' envOk Tryz.func40 rfl (by kernel_rfl) Tryz.ntmps40 Tryz.results40 (.i _ _) (fun nx=> ?_)
 refine AW.sr envOk (fun N hN=> ?_)
 simp-dsimp-implicitDefEqProofs (disch:=omega) only[go_sem,undef,prsP,prs,w64]
 refine hN _ ?_
 try clear hN N
 refine AW.seq (fun N1 hN1=> ?_)
 refine AW.block ?_
 refine AW.sr envOk (fun N hN=> ?_)
 simp-dsimp-implicitDefEqProofs (disch:=omega) only[go_sem,undef,prsP,prs,w64]
 refine AC.pure (.of (impl_IsConsistent_ok os pw cj hl)) ?_
 try simp-dsimp-implicitDefEqProofs (disch:=omega) only[go_sem,undef,prsP,prs,w64]
 refine hN _ ?_
 try clear hN N
 refine AW.cond rfl (fun h1=> ?_) (fun h1=> ?_)
 ·try simp only[cn]at h1
  refine AW.sr envOk (fun N hN=> ?_)
  simp-dsimp-implicitDefEqProofs (disch:=omega) only[go_sem,undef,prsP,prs,w64]
  refine hN _ ?_
  try clear hN N
  refine AW.ret ?_
  simp-dsimp-implicitDefEqProofs (disch:=omega) only[go_sem,undef]
  rw[cvC_1 os pw cj h1]
 ·try simp only[cn]at h1
  refine AW.sr envOk (fun N hN=> ?_)
  simp-dsimp-implicitDefEqProofs (disch:=omega) only[go_sem,undef,prsP,prs,w64]
  refine AC.pure (.of (impl_isPGroup_ok os pw cj hl)) ?_
  try simp-dsimp-implicitDefEqProofs (disch:=omega) only[go_sem,undef,prsP,prs,w64]
  refine hN _ ?_
  try clear hN N
  refine AW.cond rfl (fun h2=> ?_) (fun h2=> ?_)
  ·try simp only[cn]at h2
   refine AW.sr envOk (fun N hN=> ?_)
   simp-dsimp-implicitDefEqProofs (disch:=omega) only[go_sem,undef,prsP,prs,w64]
   refine hN _ ?_
   try clear hN N
   refine AW.ret ?_
   simp-dsimp-implicitDefEqProofs (disch:=omega) only[go_sem,undef]
   rw[cvC_5 os pw cj h1 h2]
  ·try simp only[cn]at h2
   refine AW.sr envOk (fun N hN=> ?_)
   simp-dsimp-implicitDefEqProofs (disch:=omega) only[go_sem,undef,prsP,prs,w64]
   refine AC.pure (.of (impl_orderOf_ok os pw cj h1.1)) ?_
   try simp-dsimp-implicitDefEqProofs (disch:=omega) only[go_sem,undef,prsP,prs,w64]
   refine hN _ ?_
   try clear hN N
   refine AW.cond rfl (fun h3=> ?_) (fun h3=> ?_)
   ·try simp only[cn]at h3
    refine AW.sr envOk (fun N hN=> ?_)
    simp-dsimp-implicitDefEqProofs (disch:=omega) only[go_sem,undef,prsP,prs,w64]
    refine hN _ ?_
    try clear hN N
    refine AW.ret ?_
    simp-dsimp-implicitDefEqProofs (disch:=omega) only[go_sem,undef]
    rw[cvC_3 os pw cj h1 h2 (by omega)]
   ·try simp only[cn]at h3
    refine AW.skip ?_
    simp only[thn,blk]
    refine hN1 _ ?_
    try clear hN1 N1
    refine AW.sr envOk (fun N hN=> ?_)
    simp-dsimp-implicitDefEqProofs (disch:=omega) only[go_sem,undef,prsP,prs,w64]
    refine hN _ ?_
    try clear hN N
    refine AW.ret ?_
    simp-dsimp-implicitDefEqProofs (disch:=omega) only[go_sem,undef]
    rw[cvC_0 os pw cj h1 h2 (by omega)]
theorem spec_l28Code_ok (hl:prlen os pw cj):ACp Tryz.prog 37 [prs os pw cj] (.i .i64 (cvC os pw cj)):=by
 have hlo:=hl.o
 refine ACp.intro' envOk Tryz.func37 rfl (by kernel_rfl) Tryz.ntmps37 Tryz.results37 (.i _ _) (fun nx=> ?_)
 refine AW.sr envOk (fun N hN=> ?_)
 simp-dsimp-implicitDefEqProofs (disch:=omega) only[go_sem,undef,prsP,prs,w64]
 refine hN _ ?_
 try clear hN N
 refine AW.freezeQ 1 nx _ rfl (upd_same _ _ _) ?_
 simp-dsimp-implicitDefEqProofs (disch:=omega) only[go_sem,undef]
 refine AW.seq (fun N1 hN1=> ?_)
 refine AW.sr envOk (fun N hN=> ?_)
 simp-dsimp-implicitDefEqProofs (disch:=omega) only[go_sem,undef,prsP,prs,w64]
 refine AC.pure (.of (spec_l08Group_ok os pw cj hl)) ?_
 try simp-dsimp-implicitDefEqProofs (disch:=omega) only[go_sem,undef,prsP,prs,w64]
 refine hN _ ?_
 try clear hN N
 refine AW.cond rfl (fun h1=> ?_) (fun h1=> ?_)
 ·try simp only[cn]at h1
  refine AW.sr envOk (fun N hN=> ?_)
  simp-dsimp-implicitDefEqProofs (disch:=omega) only[go_sem,undef,prsP,prs,w64]
  refine hN _ ?_
  try clear hN N
  refine AW.ret ?_
  simp-dsimp-implicitDefEqProofs (disch:=omega) only[go_sem,undef]
  rw[cvC_1 os pw cj h1]
 ·try simp only[cn]at h1
  refine AW.skip ?_
  simp only[thn,blk]
  refine hN1 _ ?_
  try clear hN1 N1
  refine AW.seq (fun N2 hN2=> ?_)
  refine AW.sr envOk (fun N hN=> ?_)
  simp-dsimp-implicitDefEqProofs (disch:=omega) only[go_sem,undef,prsP,prs,w64]
  refine AC.pure (.of (spec_IsPGroup_ok os pw cj hl)) ?_
  try simp-dsimp-implicitDefEqProofs (disch:=omega) only[go_sem,undef,prsP,prs,w64]
  refine hN _ ?_
  try clear hN N
  refine AW.cond rfl (fun h2=> ?_) (fun h2=> ?_)
  ·try simp only[cn]at h2
   refine AW.sr envOk (fun N hN=> ?_)
   simp-dsimp-implicitDefEqProofs (disch:=omega) only[go_sem,undef,prsP,prs,w64]
   refine hN _ ?_
   try clear hN N
   refine AW.ret ?_
   simp-dsimp-implicitDefEqProofs (disch:=omega) only[go_sem,undef]
   rw[cvC_5 os pw cj h1 h2]
  ·try simp only[cn]at h2
   refine AW.skip ?_
   simp only[thn,blk]
   refine hN2 _ ?_
   try clear hN2 N2
   refine AW.seq (fun N3 hN3=> ?_)
   refine AW.sr envOk (fun N hN=> ?_)
   simp-dsimp-implicitDefEqProofs (disch:=omega) only[go_sem,undef,prsP,prs,w64]
   refine AC.pure (.of (spec_l10Order_ok os pw cj h1.1)) ?_
   try simp-dsimp-implicitDefEqProofs (disch:=omega) only[go_sem,undef,prsP,prs,w64]
   refine hN _ ?_
   try clear hN N
   refine AW.cond rfl (fun h3=> ?_) (fun h3=> ?_)
   ·try simp only[cn]at h3
    refine AW.sr envOk (fun N hN=> ?_)
    simp-dsimp-implicitDefEqProofs (disch:=omega) only[go_sem,undef,prsP,prs,w64]
    refine hN _ ?_
    try clear hN N
    refine AW.ret ?_
    simp-dsimp-implicitDefEqProofs (disch:=omega) only[go_sem,undef]
    rw[cvC_3 os pw cj h1 h2 (by omega)]
   ·try simp only[cn]at h3
    refine AW.skip ?_
    simp only[thn,blk]
    refine hN3 _ ?_
    try clear hN3 N3
    refine AW.sr envOk (fun N hN=> ?_)
    simp-dsimp-implicitDefEqProofs (disch:=omega) only[go_sem,undef,prsP,prs,w64]
    refine hN _ ?_
    try clear hN N
    refine AW.ret ?_
    simp-dsimp-implicitDefEqProofs (disch:=omega) only[go_sem,undef]
    rw[cvC_0 os pw cj h1 h2 (by omega)]
noncomputable def exSr (os:List Int) (pw:List (List Int)) (cj:List (List (List Int))):List (List V):=exK (pc os pw cj) (os.getD 0 0) os.length (unL os.length)
end
end Go.Proofs.YtnlfbimjcabgiaaGreat
namespace Go.Proofs.YtnlfbimjcabgiaaGreat
open Nat (reduceAdd reduceSub reduceGT reduceEqDiff reduceMul)
theorem Ow.prs_inv {H:HP} {r:AV} {os:List Int} {pw:List (List Int)} {cj:List (List (List Int))} {ids:List Nat} (h:Ow H r (Go.Proofs.YtnlfbimjcabgiaaGreat.prs os pw cj) ids):
    ∃r1 r2 r3 is js ks,r= .g [r1,r2,r3]∧ids=is++(js++ks)∧Ow H r1 (Go.Proofs.YtnlfbimjcabgiaaGreat.ints os) is∧Ow H r2 (rows pw) js∧Ow H r3 (cubes cj) ks:=by
  unfold Go.Proofs.YtnlfbimjcabgiaaGreat.prs at h
  generalize hX:AV.g [Go.Proofs.YtnlfbimjcabgiaaGreat.ints os,rows pw,cubes cj]=X at h
  cases h with
  | leaf _ hf hn=>
    subst hX
    cases hf with|g _ hf=>cases hn with|g _ hn=>exact⟨Go.Proofs.YtnlfbimjcabgiaaGreat.ints os,rows pw,cubes cj,[],[],[],rfl,rfl,.leaf _ (hf 0 _ rfl) (hn 0 _ rfl),.leaf _ (hf 1 _ rfl) (hn 1 _ rfl),.leaf _ (hf 2 _ rfl) (hn 2 _ rfl)⟩
  |nl=>cases hX
  |h id cs ts ids' h1 h2=>cases hX
  |q id cs ts ids' h1 h2=>cases hX
  | g cs ts ids' h2=>
    cases hX
    cases h2 with|cons x0 _ xs _ i0 j0 g1 g2=>cases g2 with|cons x1 _ xs _ i1 j1 g3 g4=>cases g4 with|cons x2 _ xs _ i2 j2 g5 g6=>
      cases g6
      exact⟨x0,x1,x2,i0,i1,i2,rfl,by simp,g1,g3,g5⟩
  |t cs ts ids' h2=>cases hX
theorem Hold.prs {H:HP} {lo hi:Nat} {r:AV} {os:List Int} {pw:List (List Int)} {cj:List (List (List Int))} (h:Hold H lo hi r (Go.Proofs.YtnlfbimjcabgiaaGreat.prs os pw cj)):
    ∃r1 r2 r3,r= .g [r1,r2,r3]∧(one r1=true∧one r2=true∧one r3=true)∧Hold H lo hi (.g [r1,r2,r3]) (Go.Proofs.YtnlfbimjcabgiaaGreat.prs os pw cj):=by
  obtain⟨ids,h1,h2,h3⟩:=h
  obtain⟨r1,r2,r3,is,js,ks,rfl,_,h4,h5,h6⟩:=h1.prs_inv
  exact⟨r1,r2,r3,rfl,⟨one_ow h4,one_ow h5,one_ow h6⟩,ids,h1,h2,h3⟩
theorem markP_x (os:List Int) (pw:List (List Int)) (cj:List (List (List Int))) (hos:os.length≤1048576) (hpw:rowslen pw) (hcj:cubeslen cj) (r1 r2 r3:AV) (is js ks:List Nat) (k:Int) (nx:Nat) (H:HP) (o1:Ow H r1 (ints os) is) (o2:Ow H r2 (rows pw) js) (o3:Ow H r3 (cubes cj) ks) (hnd:(is++(js++ks)).Nodup) (hlt:∀i∈is++(js++ks),i<nx) (hk0:0≤k) (hk1:k≤1000000000000):
 AC Tryz.prog 18 nx H [.g [r1,r2,r3],.i .i64 k] (fun _ H' res=>∃k':Int,res= .i .i64 k'∧(0≤k'∧k'≤2000000000000000000)∧∀i,i∉is++(js++ks)→H' i=H i):=by
 obtain⟨n1,n2,n3⟩:=List.nodup_append.1 hnd
 obtain⟨n4,n5,n6⟩:=List.nodup_append.1 n2
 have u1:=one_ow o1
 have u2:=one_ow o2
 have u3:=one_ow o3
 refine AC.introx envOk Tryz.func18 rfl (by kernel_rfl) Tryz.ntmps18 Tryz.results18 (fun hfr=> ?_)
 refine AW.sr envOk (fun N hN=> ?_)
 simp-dsimp-implicitDefEqProofs (disch:=omega) only[go_sem,undef,u1,u2,u3]
 refine hN _ ?_
 try clear hN N
 refine AW.sr envOk (fun N hN=> ?_)
 simp-dsimp-implicitDefEqProofs (disch:=omega) only[go_sem,undef,u1,u2,u3]
 refine(laws_markInt64S_c _ _ r1 os is k (o1.keep (fun i hi=> ?_)) n1 hos hk0 (by omega)).mono2 ?_
 ·have:=hlt i (by simp[hi]);exact upd_ne _ _ (by omega)
 rintro nx1 H1 res hx1 ⟨k1,rfl,hk2,hk3,hH1⟩
 have hb:H1 nx=some [r1,r2,r3]:=by rw[hH1 nx (fun h=>by have:=hlt nx (by simp[h]);omega),upd_same]
 try simp-dsimp-implicitDefEqProofs (disch:=omega) only[go_sem,undef,u1,u2,u3]
 refine hN _ ?_
 try clear hN N
 refine AW.sr envOk (fun N hN=> ?_)
 simp-dsimp-implicitDefEqProofs (disch:=omega) only[go_sem,undef,u1,u2,u3]
 try simp-dsimp-implicitDefEqProofs (disch:=omega) only[go_sem,undef,hb]
 refine(laws_markInt64SS_c _ _ r2 pw js k1 (o2.keep (fun i hi=> ?_)) n4 hpw (by omega) (by omega)).mono2 ?_
 ·rw[hH1 i (fun h=>n3 i h i (by simp[hi]) rfl)]
  have:=hlt i (by simp[hi]);exact upd_ne _ _ (by omega)
 rintro nx2 H2 res hx2 ⟨k2,rfl,hk4,hk5,hH2⟩
 have hb2:H2 nx=some [r1,r2,r3]:=by rw[hH2 nx (fun h=>by have:=hlt nx (by simp[h]);omega),hb]
 try simp-dsimp-implicitDefEqProofs (disch:=omega) only[go_sem,undef,u1,u2,u3]
 refine hN _ ?_
 try clear hN N
 refine AW.sr envOk (fun N hN=> ?_)
 simp-dsimp-implicitDefEqProofs (disch:=omega) only[go_sem,undef,u1,u2,u3]
 try simp-dsimp-implicitDefEqProofs (disch:=omega) only[go_sem,undef,hb2]
 refine(laws_markInt64SSS_c _ _ r3 cj ks k2 (o3.keep (fun i hi=> ?_)) n5 hcj (by omega) (by omega)).mono2 ?_
 ·rw[hH2 i (fun h=>n6 i h i hi rfl),hH1 i (fun h=>n3 i h i (by simp[hi]) rfl)]
  have:=hlt i (by simp[hi]);exact upd_ne _ _ (by omega)
 rintro nx3 H3 res hx3 ⟨k3,rfl,hk6,hk7,hH3⟩
 try simp-dsimp-implicitDefEqProofs (disch:=omega) only[go_sem,undef,u1,u2,u3]
 refine hN _ ?_
 try clear hN N
 refine AW.sr envOk (fun N hN=> ?_)
 simp-dsimp-implicitDefEqProofs (disch:=omega) only[go_sem,undef,u1,u2,u3]
 refine hN _ ?_
 try clear hN N
 refine AW.ret ?_
 simp-dsimp-implicitDefEqProofs (disch:=omega) only[go_sem,undef]
 refine⟨cut nx H3,cut_le _ _,k3,rfl,⟨by omega,by omega⟩,fun i hi=> ?_⟩
 unfold cut
 split
 ·rw[hH3 i (fun h=>hi (by simp[h])),hH2 i (fun h=>hi (by simp[h])),hH1 i (fun h=>hi (by simp[h]))]
  exact upd_ne _ _ (by omega)
 ·rw[hfr i (by omega)]
theorem markP_g {os:List Int} {pw:List (List Int)} {cj:List (List (List Int))} (hos:os.length≤1048576) (hpw:rowslen pw) (hcj:cubeslen cj) {nx:Nat} {H:HP} {r1 r2 r3:AV} {lo hi:Nat} {k:Int} (h:Hold H lo hi (.g [r1,r2,r3]) (prs os pw cj)) (hn:hi≤nx) (h0:0≤k) (h1:k≤1000000000000):
    AC Tryz.prog 18 nx H [.g [r1,r2,r3],.i .i64 k] (fun _ H' res=>∃k':Int,res= .i .i64 k'∧(0≤k'∧k'≤2000000000000000000)∧∀i,(i<lo∨hi≤i)→H' i=H i):=by
  obtain⟨ids,g1,g2,g3⟩:=h
  obtain⟨s1,s2,s3,is,js,ks,e,rfl,o1,o2,o3⟩:=g1.prs_inv
  cases e
  refine(markP_x os pw cj hos hpw hcj r1 r2 r3 is js ks k nx H o1 o2 o3 g2 (fun i hi=>by have:=g3 i hi;omega) h0 h1).mono ?_
  rintro _ H' res ⟨k',rfl,w1,hH⟩
  exact⟨k',rfl,w1,fun i hi=>hH i (fun hm=>by have:=g3 i hm;omega)⟩
end Go.Proofs.YtnlfbimjcabgiaaGreat
namespace Go.Proofs.YtnlfbimjcabgiaaGreat
open Nat (reduceAdd reduceSub reduceGT reduceEqDiff reduceMul)
section
variable {P:Pc} (hv:Val P) (hc:Con P 0) (hp:∀d,d<P.n→pr4 (P.o d))
include hv hc hp
theorem exK_mem {q:Int}:∀k (us:List V),ExP P us→∀x∈exK P q k us,ExP P x
  | 0,us,h,x,hx=>by
    rw[exK,List.mem_singleton]at hx
    rw[hx];exact h
  | k +1,us,h,x,hx=>by
    rw[exK]at hx
    split at hx
    · rw[List.mem_singleton]at hx
      rw[hx];exact h
    · rcases List.mem_cons.1 hx with e|e
      · rw[e];exact h
      · exact exK_mem k _ (ExP.next hv hc hp h).1 x e
end
def resQ (m:(List Int×List (List Int)×List (List (List Int)))×Int):AV:= .t [prs m.1.1 m.1.2.1 m.1.2.2,.i .i64 m.2]
theorem Own.nilQ {a b:Nat} {H:HP} {e:Int}:∃ids,Own a b H (.t [.g [.nl,.nl,.nl],.i .i64 e]) (resQ (([],[],[]),e)) ids:=
  ⟨_,.t _ _ _ (.cons _ _ _ _ _ _ (.g _ _ _ (.cons _ _ _ _ _ _ .nl (.cons _ _ _ _ _ _ .nl (.cons _ _ _ _ _ _ .nl .nil)))) (.cons _ _ _ _ _ _ (.leaf _ (.i _ _) (.i _ _)) .nil)),by simp,by simp⟩
section
variable (os:List Int) (pw:List (List Int)) (cj:List (List (List Int)))
noncomputable def paU:List V:=(exSr os pw cj).getD ((exSr os pw cj).length-2) []
noncomputable def paM:(List Int×List (List Int)×List (List (List Int)))×Int:=
  if cvC os pw cj=0 then (if 3≤(exSr os pw cj).length then ((qoO os (paU os pw cj),qoP (pc os pw cj) (paU os pw cj),qoC (pc os pw cj) (paU os pw cj)),0)else (([],[],[]),4))else (([],[],[]),cvC os pw cj)
theorem paU_ExP (h:presOk os pw cj) (hc:Con (pc os pw cj) 0) (h3:3≤(exSr os pw cj).length):ExP (pc os pw cj) (paU os pw cj):=by
  have hv:=h.val
  have hfst:ExP (pc os pw cj) (unL os.length):=ExP.first hv hc
  have hm:paU os pw cj∈exSr os pw cj:=by
    unfold paU
    rw[List.getD_eq_getElem?_getD,List.getElem?_eq_getElem (by omega)]
    exact List.getElem_mem _
  exact exK_mem hv hc (fun d hd=>h.2.1 d hd) _ _ hfst _ hm
theorem tmin2 {x:Nat}:((x:Int)-2).toNat=x-2:=by omega
theorem sr_get {n:Nat} {K:List (List V)} {k:Nat} (h:k<K.length):(K.map (vls n)).getD k .j=vls n (K.getD k []):=by
  simp[List.getD_eq_getElem?_getD,h]
set_option maxHeartbeats 2000000 in
theorem impl_ParentOf_ok (hl:prlen os pw cj):ACo Tryz.prog 17 [prs os pw cj] (resQ (paM os pw cj)):=by
 have hlo:=hl.o
 intro nx
 refine AC.intro' envOk Tryz.func17 rfl (by kernel_rfl) Tryz.ntmps17 Tryz.results17 ?_
 refine AW.sr envOk (fun N hN=> ?_)
 simp-dsimp-implicitDefEqProofs (disch:=omega) only[go_sem,undef,prsP,prs,w64,ints,gd_i]
 refine hN _ ?_
 try clear hN N
 refine AW.seq (fun N1 hN1=> ?_)
 refine AW.freezeQ 1 nx _ rfl ((upd_ne _ _ (by omega)).trans (upd_same _ _ _)) ?_
 simp-dsimp-implicitDefEqProofs (disch:=omega) only[go_sem,undef]
 refine AW.sr envOk (fun N hN=> ?_)
 simp-dsimp-implicitDefEqProofs (disch:=omega) only[go_sem,undef,prsP,prs,w64,ints,gd_i]
 refine AC.pure (.of (impl_coverCode_ok os pw cj hl)) ?_
 try simp-dsimp-implicitDefEqProofs (disch:=omega) only[go_sem,undef,prsP,prs,w64,ints,gd_i]
 refine hN _ ?_
 try clear hN N
 refine AW.sr envOk (fun N hN=> ?_)
 simp-dsimp-implicitDefEqProofs (disch:=omega) only[go_sem,undef,prsP,prs,w64,ints,gd_i]
 refine hN _ ?_
 try clear hN N
 refine AW.cond rfl (fun h1=> ?_) (fun h1=> ?_)
 ·try simp only[cn]at h1
  refine AW.sr envOk (fun N hN=> ?_)
  simp-dsimp-implicitDefEqProofs (disch:=omega) only[go_sem,undef,prsP,prs,w64,ints,gd_i]
  refine hN _ ?_
  try clear hN N
  refine AW.ret ?_
  simp-dsimp-implicitDefEqProofs (disch:=omega) only[go_sem,undef]
  rw[show paM os pw cj=(([],[],[]),cvC os pw cj)from by unfold paM;rw[if_neg (by omega)]]
  exact Own.nilQ
 ·try simp only[cn]at h1
  have hz:cvC os pw cj=0:=by omega
  obtain⟨g1,g2,g3⟩:=cvC_z os pw cj hz
  have h0:=g2.2.1
  have hb:=pr4_bd (g1.1.2.1 0 (by omega))
  have hle:=exK_len (P:=pc os pw cj) (q:=os.getD 0 0) os.length (unL os.length)
  have hn6:=g1.1.1.1
  have hlx:(exSr os pw cj).length=(exK (pc os pw cj) (os.getD 0 0) os.length (unL os.length)).length:=rfl
  refine AW.skip ?_
  simp only[thn,blk]
  refine hN1 _ ?_
  try clear hN1 N1
  refine AW.sr envOk (fun N hN=> ?_)
  simp-dsimp-implicitDefEqProofs (disch:=omega) only[go_sem,undef,prsP,prs,w64,ints,gd_i]
  refine AC.pure (.of (impl_lowerExponent_ok os pw cj g1.1 g1.2 (os.getD 0 0) (by omega))) ?_
  try simp-dsimp-implicitDefEqProofs (disch:=omega) only[go_sem,undef,prsP,prs,w64,ints,gd_i]
  refine hN _ ?_
  try clear hN N
  refine AW.seq (fun N2 hN2=> ?_)
  refine AW.sr envOk (fun N hN=> ?_)
  simp-dsimp-implicitDefEqProofs (disch:=omega) only[go_sem,undef,prsP,prs,w64,ints,gd_i]
  refine hN _ ?_
  try clear hN N
  refine AW.cond rfl (fun h2=> ?_) (fun h2=> ?_)
  ·try simp only[cn]at h2
   refine AW.sr envOk (fun N hN=> ?_)
   simp-dsimp-implicitDefEqProofs (disch:=omega) only[go_sem,undef,prsP,prs,w64,ints,gd_i]
   refine hN _ ?_
   try clear hN N
   refine AW.ret ?_
   simp-dsimp-implicitDefEqProofs (disch:=omega) only[go_sem,undef]
   have h3:¬3≤(exSr os pw cj).length:=by omega
   rw[show paM os pw cj=(([],[],[]),4)from by unfold paM;rw[if_pos hz,if_neg h3]]
   exact Own.nilQ
  ·try simp only[cn]at h2
   have h3:3≤(exSr os pw cj).length:=by omega
   have hE:=paU_ExP os pw cj g1.1 g1.2 h3
   have hgu:((exK (pc os pw cj) (os.getD 0 0) os.length (unL os.length)).map (vls os.length)).getD ((exK (pc os pw cj) (os.getD 0 0) os.length (unL os.length)).length-2) .j=vls os.length (paU os pw cj):=sr_get (by omega)
   refine AW.skip ?_
   simp only[thn,blk]
   refine hN2 _ ?_
   try clear hN2 N2
   refine AW.sr envOk (fun N hN=> ?_)
   simp-dsimp-implicitDefEqProofs (disch:=omega) only[go_sem,undef,prsP,prs,w64,ints,gd_i,vcs,tmin2,hgu]
   refine AC.own (impl_quotientPresentation_ok os pw cj g1.1 g1.2 (paU os pw cj) hE.2.1) (.cons (.refl _) (.cons (.refl _) .nil)) ?_
   intro m1 H1 r1 ids1 hm1 hH1 hown1
   obtain⟨s1,s2,s3,is,js,ks,rfl,hid,o1,o2,o3⟩:=hown1.1.prs_inv
   have u1:=one_ow o1
   have u2:=one_ow o2
   have u3:=one_ow o3
   have hc1:H1 (nx+1)=some [.nl,.nl,.nl]:=(hH1 _ (by omega)).trans (by simp(disch:=omega) only[upd_ne,upd_same])
   try simp-dsimp-implicitDefEqProofs (disch:=omega) only[go_sem,undef,prsP,prs,w64,ints,u1,u2,u3,hc1]
   refine hN _ ?_
   try clear hN N
   refine AW.ret ?_
   simp-dsimp-implicitDefEqProofs (disch:=omega) only[go_sem,undef]
   rw[show paM os pw cj=((qoO os (paU os pw cj),qoP (pc os pw cj) (paU os pw cj),qoC (pc os pw cj) (paU os pw cj)),0)from by unfold paM;rw[if_pos hz,if_pos h3]]
   have hidB:∀i∈ids1,nx+3≤i:=fun i hi=>by have:=hown1.2.2 i hi;omega
   exact(hown1.keep (fun i q1 q2=>upd_ne _ _ (by omega)) (by omega) (by omega)).pair
end
end Go.Proofs.YtnlfbimjcabgiaaGreat
