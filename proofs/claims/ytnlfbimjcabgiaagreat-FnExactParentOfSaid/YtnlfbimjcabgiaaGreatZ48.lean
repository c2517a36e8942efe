import Derived.Test.YtnlfbimjcabgiaaGreatZ36
import Derived.Test.YtnlfbimjcabgiaaGreatZ44
set_option linter.unusedVariables false
set_option linter.unusedSimpArgs false
namespace Go.Proofs.YtnlfbimjcabgiaaGreat
open Nat (reduceAdd reduceSub reduceGT reduceEqDiff reduceMul)
theorem tbl_nr (n:Nat) (t:Nat→Option V):NR (.v n (tbl n t)):= .v _ _ (fun k y hk=>by
  obtain⟨d,_,rfl⟩:=List.mem_map.1 (List.mem_of_getElem? hk)
  cases t d with
  |none=>exact .v _ _ (fun k x hk=>by simp[tkc]at hk)
  |some z=>exact vi_nr _ _)
theorem fr_snoc {n:Nat} {u:List V} {k:Nat} (h:tbA n u k=none):List.map (fun d:Nat=>AV.i .i64 (d:Int)) (frU n u k)++[AV.i .i64 (k:Int)]=List.map (fun d:Nat=>AV.i .i64 (d:Int)) (frU n u (k+1)):=by
  rw[frU_s,if_pos h,List.map_append];rfl
section
variable (os:List Int) (pw:List (List Int)) (cj:List (List (List Int)))
theorem spec_l12Table_v (hn:os.length≤6) (us:List V) (hl:us.length≤1000) (hu:∀k,k<us.length→ldV os.length (us.getD k z0)<os.length):ACp Tryz.prog 115 [prs os pw cj,vls os.length us] (.v os.length (tbl os.length (tbA os.length us))):=by
 refine ACp.introV envOk Tryz.func115 rfl (by kernel_rfl) Tryz.ntmps115 Tryz.results115 ((tbl_nr _ _)) (fun nx=> ?_)
 refine AW.sr envOk (fun N hN=> ?_)
 simp-dsimp-implicitDefEqProofs (maxSteps:=800000) (disch:=omega) only[go_sem,undef,prs,prsP,ints,w64,vls,vi]
 refine hN _ ?_
 try clear hN N
 refine AW.freezeQ 2 nx _ rfl (upd_same _ _ _) ?_
 simp-dsimp-implicitDefEqProofs (maxSteps:=800000) (disch:=omega) only[go_sem,undef]
 refine AW.sr envOk (fun N hN=> ?_)
 simp-dsimp-implicitDefEqProofs (maxSteps:=800000) (disch:=omega) only[go_sem,undef,prs,prsP,ints,w64,vls,vi]
 refine hN _ ?_
 try clear hN N
 refine AW.seq (fun N1 hN1=> ?_)
 refine AW.fznl (nx+2+3) os.length (upd_same _ _ _) ?_
 rw[tbl_nil]
 simp-dsimp-implicitDefEqProofs (maxSteps:=800000) (disch:=omega) only[go_sem,undef]
 refine AW.sr envOk (fun N hN=> ?_)
 simp-dsimp-implicitDefEqProofs (maxSteps:=800000) (disch:=omega) only[go_sem,undef,prs,prsP,ints,w64,vls,vi]
 refine hN _ ?_
 try clear hN N
 refine AW.block ?_
 refine AW.loopN (α:=Nat) (fun x=>sl 29 [(1,vls os.length us),(5,.h (nx+2+3) 0 os.length),(6,.i .i64 x)]) (fun x=>upd noH (nx+2+3) (some (tbl os.length (tbU os.length us x)))) (fun x m=>x≤us.length∧nx+6≤m) (fun x=>us.length-x) (0) ?_ ?_ (by rw[tbU];intro d cs hd;simp only[upd,noH]at hd ⊢;grind) ?_
 ·exact⟨by omega,by first|omega|(simp only;omega)|(dsimp only;omega)⟩
 ·simp(disch:=omega) [wks,wkA,sl,prsP,ints,rows,cubes,vls]
 ·skip
  rintro k m ⟨hk,hm⟩
  try simp only[prsP]
  try simp-dsimp-implicitDefEqProofs (maxSteps:=800000) (disch:=omega) only[go_sem,undef]
  refine AW.seq (fun N2 hN2=> ?_)
  refine AW.sr envOk (fun N hN=> ?_)
  simp-dsimp-implicitDefEqProofs (maxSteps:=800000) (disch:=omega) only[go_sem,undef,prs,prsP,ints,w64,vls,vi]
  refine hN _ ?_
  try clear hN N
  refine AW.cond rfl (fun h1=> ?_) (fun h1=> ?_)
  ·try simp only[cn]at h1
   have hd:=hu k (by omega)
   have hgs:splice (tbl os.length (tbU os.length us k)) (ldV os.length (us.getD k z0)) [AV.v os.length (ivs os.length (us.getD k z0))]=tbl os.length (tbU os.length us (k+1)):=by rw[tbl_set hd];rfl
   refine AW.skip ?_
   simp only[thn,blk]
   refine hN2 _ ?_
   try clear hN2 N2
   refine AW.seq (fun N3 hN3=> ?_)
   refine AW.block ?_
   refine AW.drawL envOk (by kernel_rfl) 11 (by kernel_rfl) ?_
   simp-dsimp-implicitDefEqProofs (maxSteps:=800000) (disch:=omega) only[hr_nil,hr_one,hr_if,List.take_succ_cons,List.take_zero,List.drop_succ_cons,List.drop_zero,List.take_nil,List.drop_nil,go_sem,undef,prs,prsP,ints,w64,vls,vi]
   refine⟨_,.of (spec_l12Depth_ok os.length (by omega) (us.getD k z0)),?_⟩
   try simp-dsimp-implicitDefEqProofs (maxSteps:=800000) (disch:=omega) only[go_sem,undef,prs,prsP,ints,w64,vls,vi]
   refine hN3 _ ?_
   try clear hN3 N3
   refine AW.regionL envOk ?_
   simp-dsimp-implicitDefEqProofs (maxSteps:=800000) (disch:=omega) only[go_sem,undef,prs,prsP,ints,w64,vls,vi]
   refine⟨k+1,?_,by rw[←hgs];exact Le.refl _,?_,?_⟩
   ·simp(disch:=omega) [wks,wkA,sl,w64,ints,rows,cubes,prs,prsP,ints,w64,vls,vi]<;>omega
   ·exact⟨by first|omega|(simp only;omega)|(dsimp only;omega),by first|omega|(simp only;omega)|(dsimp only;omega)⟩
   ·first|omega|(simp only;omega)
  ·try simp only[cn]at h1
   refine AW.exit ?_
   simp only[thn,blk,if_true]
   refine hN1 _ ?_
   try clear hN1 N1
   refine AW.sr envOk (fun N hN=> ?_)
   simp-dsimp-implicitDefEqProofs (maxSteps:=800000) (disch:=omega) only[go_sem,undef,prs,prsP,ints,w64,vls,vi]
   refine hN _ ?_
   try clear hN N
   refine AW.ret ?_
   simp-dsimp-implicitDefEqProofs (maxSteps:=800000) (disch:=omega) only[go_sem,undef]
   obtain rfl:k=us.length:=by omega
   exact Vw.blk (upd_same _ _ _) tbl_len.symm
set_option maxHeartbeats 1000000 in
theorem spec_l12Reduce_v (h:presOk os pw cj) (hc:Con (pc os pw cj) 0) (t:Nat→Option V) (ht:tbT (pc os pw cj) t) (a:V) (ha:T (pc os pw cj) 0 a):ACp Tryz.prog 142 [prs os pw cj,.v os.length (tbl os.length t),vi os.length a] (vi os.length (redF (pc os pw cj) t os.length 0 a)):=by
 have hn6:=h.1.1
 have hv:=h.val
 refine ACp.intro' envOk Tryz.func142 rfl (by kernel_rfl) Tryz.ntmps142 Tryz.results142 (vi_nr _ _) (fun nx=> ?_)
 refine AW.sr envOk (fun N hN=> ?_)
 simp-dsimp-implicitDefEqProofs (maxSteps:=800000) (disch:=omega) only[go_sem,undef,prs,prsP,w64,vi]
 refine hN _ ?_
 try clear hN N
 refine AW.freezeQ 3 nx _ rfl (upd_same _ _ _) ?_
 simp-dsimp-implicitDefEqProofs (maxSteps:=800000) (disch:=omega) only[go_sem,undef]
 refine AW.sr envOk (fun N hN=> ?_)
 simp-dsimp-implicitDefEqProofs (maxSteps:=800000) (disch:=omega) only[go_sem,undef,prs,prsP,w64,vi]
 refine AC.pure (.of (spec_l01Own_v a (by omega))) ?_
 try simp-dsimp-implicitDefEqProofs (maxSteps:=800000) (disch:=omega) only[go_sem,undef,prs,prsP,w64,vi]
 refine hN _ ?_
 try clear hN N
 refine AW.seq (fun N1 hN1=> ?_)
 refine AW.sr envOk (fun N hN=> ?_)
 simp-dsimp-implicitDefEqProofs (maxSteps:=800000) (disch:=omega) only[go_sem,undef,prs,prsP,w64,vi]
 refine hN _ ?_
 try clear hN N
 refine AW.block ?_
 refine AW.loopN (α:=Nat×V) (fun x=>sl 45 [(1,.v os.length (tbl os.length t)),(3,prsP os pw cj),(7,vi os.length x.2),(8,.i .i64 x.1)]) (fun _=>noH) (fun x m=>(x.1≤os.length∧T (pc os pw cj) 0 x.2)∧redF (pc os pw cj) t (os.length-x.1) x.1 x.2=redF (pc os pw cj) t os.length 0 a) (fun x=>os.length-x.1) ((0,a)) ?_ ?_ (by intro d cs hd;cases hd) ?_
 ·exact⟨⟨by simp,ha⟩,rfl⟩
 ·simp(disch:=omega) [wks,wkA,sl,prsP,ints,rows,cubes,vi]
 ·skip
  rintro⟨q,u⟩ m ⟨⟨hq,hu⟩,hI⟩
  dsimp only at hq hu hI ⊢
  simp only[vi,prsP]
  simp-dsimp-implicitDefEqProofs (maxSteps:=800000) (disch:=omega) only[go_sem,undef]
  refine AW.seq (fun N2 hN2=> ?_)
  refine AW.sr envOk (fun N hN=> ?_)
  simp-dsimp-implicitDefEqProofs (maxSteps:=800000) (disch:=omega) only[go_sem,undef,prs,prsP,w64,vi]
  refine hN _ ?_
  try clear hN N
  refine AW.cond rfl (fun h1=> ?_) (fun h1=> ?_)
  ·try simp only[cn]at h1
   have hs2:redF (pc os pw cj) t (os.length-q) q u=redF (pc os pw cj) t (os.length-(q+1)) (q+1) (match t q with
     |none=>u
     |some z=>if u q=0 then u else M (pc os pw cj) 0 u (pwV (pc os pw cj) z (0-u q))):=by
    obtain⟨f,hf⟩:∃f,os.length-q=f+1:=⟨os.length-q-1,by omega⟩
    rw[hf,redF,show os.length-(q+1)=f by omega];rfl
   have hur:=hu.r q (Nat.zero_le q) (show q<os.length by omega)
   have huo:=pr4_bd (h.2.1 q (by omega))
   have hoe:(pc os pw cj).o q=os.getD q 0:=rfl
   refine AW.skip ?_
   simp only[thn,blk]
   refine hN2 _ ?_
   try clear hN2 N2
   refine AW.seq (fun N3 hN3=> ?_)
   refine AW.block ?_
   refine AW.sr envOk (fun N hN=> ?_)
   simp-dsimp-implicitDefEqProofs (maxSteps:=800000) (disch:=omega) only[go_sem,undef,prs,prsP,w64,vi]
   refine gopB.mk' (fun h2=> ?_) (fun h2=> ?_)
   ·try simp only[cn]at h2
    obtain⟨z,hz,hzv⟩:=tkl_p (n:=os.length) (o:=t q) (by omega)
    have hzT:=ht _ z hz
    have hpT:=pwV_T hv hc hzT (0-u q)
    try simp-dsimp-implicitDefEqProofs (maxSteps:=800000) (disch:=omega) only[go_sem,undef,prs,prsP,w64,vi]
    refine hN _ ?_
    try clear hN N
    refine AW.cond rfl (fun h3=> ?_) (fun h3=> ?_)
    ·try simp only[cn]at h3
     refine AW.drawL envOk (by kernel_rfl) 15 (by kernel_rfl) ?_
     simp-dsimp-implicitDefEqProofs (maxSteps:=800000) (disch:=omega) only[hr_nil,hr_one,hr_if,List.take_succ_cons,List.take_zero,List.drop_succ_cons,List.drop_zero,List.take_nil,List.drop_nil,go_sem,undef,prs,prsP,w64,vi]
     rw[hzv]
     refine⟨_,.of (spec_l10Pow_ok os pw cj h hc z hzT (0-u q) (by omega)),?_⟩
     try simp-dsimp-implicitDefEqProofs (maxSteps:=800000) (disch:=omega) only[go_sem,undef,prs,prsP,w64,vi]
     refine⟨_,.of (spec_l08Mul_ok os pw cj h _ _ hu hpT),?_⟩
     try simp-dsimp-implicitDefEqProofs (maxSteps:=800000) (disch:=omega) only[go_sem,undef,prs,prsP,w64,vi]
     refine hN3 _ ?_
     try clear hN3 N3
     refine AW.regionL envOk ?_
     simp-dsimp-implicitDefEqProofs (maxSteps:=800000) (disch:=omega) only[go_sem,undef,prs,prsP,w64,vi]
     refine⟨(q+1,M (pc os pw cj) 0 u (pwV (pc os pw cj) z (0-u q))),?_,fun _ _ h=>h,?_,?_⟩
     ·simp(disch:=omega) [wks,wkA,sl,w64,ints,rows,cubes,prs,prsP,w64,vi]<;>omega
     ·first|exact⟨⟨by first|omega|(simp only;omega)|(dsimp only;omega),M_T hv hu hpT⟩,by (try simp only[]);rw[←hI,hs2,hz];dsimp only;rw[if_neg (by omega)]⟩|exact⟨M_T hv hu hpT,by (try simp only[]);rw[←hI,hs2,hz];dsimp only;rw[if_neg (by omega)]⟩
     ·first|omega|(simp only;omega)
    ·try simp only[cn]at h3
     refine AW.skip ?_
     simp only[thn,blk]
     refine hN3 _ ?_
     try clear hN3 N3
     refine AW.regionL envOk ?_
     simp-dsimp-implicitDefEqProofs (maxSteps:=800000) (disch:=omega) only[go_sem,undef,prs,prsP,w64,vi]
     refine⟨(q+1,u),?_,fun _ _ h=>h,?_,?_⟩
     ·simp(disch:=omega) [wks,wkA,sl,w64,ints,rows,cubes,prs,prsP,w64,vi]<;>omega
     ·first|exact⟨⟨by first|omega|(simp only;omega)|(dsimp only;omega),hu⟩,by (try simp only[]);rw[←hI,hs2,hz];dsimp only;rw[if_pos (by omega)]⟩|exact⟨hu,by (try simp only[]);rw[←hI,hs2,hz];dsimp only;rw[if_pos (by omega)]⟩
     ·first|omega|(simp only;omega)
   ·try simp only[cn]at h2
    have hz:t q=none:=tkl_z (n:=os.length) (by omega) (by omega)
    try simp-dsimp-implicitDefEqProofs (maxSteps:=800000) (disch:=omega) only[go_sem,undef,prs,prsP,w64,vi]
    refine hN _ ?_
    try clear hN N
    refine AW.condF rfl ?_
    refine AW.skip ?_
    simp only[thn,blk]
    refine hN3 _ ?_
    try clear hN3 N3
    refine AW.regionL envOk ?_
    simp-dsimp-implicitDefEqProofs (maxSteps:=800000) (disch:=omega) only[go_sem,undef,prs,prsP,w64,vi]
    refine⟨(q+1,u),?_,fun _ _ h=>h,?_,?_⟩
    ·simp(disch:=omega) [wks,wkA,sl,w64,ints,rows,cubes,prs,prsP,w64,vi]<;>omega
    ·first|exact⟨⟨by first|omega|(simp only;omega)|(dsimp only;omega),hu⟩,by (try simp only[]);rw[←hI,hs2,hz]⟩|exact⟨hu,by (try simp only[]);rw[←hI,hs2,hz]⟩
    ·first|omega|(simp only;omega)
  ·try simp only[cn]at h1
   refine AW.exit ?_
   simp only[thn,blk,if_true]
   refine hN1 _ ?_
   try clear hN1 N1
   refine AW.sr envOk (fun N hN=> ?_)
   simp-dsimp-implicitDefEqProofs (maxSteps:=800000) (disch:=omega) only[go_sem,undef,prs,prsP,w64,vi]
   refine hN _ ?_
   try clear hN N
   refine AW.ret ?_
   simp-dsimp-implicitDefEqProofs (maxSteps:=800000) (disch:=omega) only[go_sem,undef]
   rw[show q=os.length by omega,Nat.sub_self]at hI
   rw[←hI];rfl
theorem spec_l12Sift_v (h:presOk os pw cj) (hc:Con (pc os pw cj) 0) {S:V→Prop} (hS:Sbg (T (pc os pw cj) 0) (M (pc os pw cj) 0) S) (us:List V) (hcn:Cnl (pc os pw cj) S us) (a:V) (ha:T (pc os pw cj) 0 a):ACp Tryz.prog 116 [prs os pw cj,vls os.length us,vi os.length a] (vi os.length (rdl (pc os pw cj) us a)):=by
 have hn6:=h.1.1
 have hv:=h.val
 have hln:=hcn.len
 have hn0:(pc os pw cj).n=os.length:=rfl
 rw[hn0]at hln
 have hld:∀k,k<us.length→ldV os.length (us.getD k z0)<os.length:=fun k hk=>(hcn.at (mem_getD hk)).1
 have hT:tbT (pc os pw cj) (tbA os.length us):=fun d y hy=>hS.n ((tbA_can hcn).1.el d y hy).2.1
 refine ACp.intro' envOk Tryz.func116 rfl (by kernel_rfl) Tryz.ntmps116 Tryz.results116 (vi_nr _ _) (fun nx=> ?_)
 refine AW.sr envOk (fun N hN=> ?_)
 simp-dsimp-implicitDefEqProofs (maxSteps:=800000) (disch:=omega) only[go_sem,undef,prs,prsP,w64]
 refine hN _ ?_
 try clear hN N
 refine AW.freezeQ 3 nx _ rfl (upd_same _ _ _) ?_
 simp-dsimp-implicitDefEqProofs (maxSteps:=800000) (disch:=omega) only[go_sem,undef]
 refine AW.seq (fun N hN=> ?_)
 refine AW.drawL envOk (by kernel_rfl) 7 (by kernel_rfl) ?_
 simp-dsimp-implicitDefEqProofs (maxSteps:=800000) (disch:=omega) only[hr_nil,hr_one,hr_if,List.take_succ_cons,List.take_zero,List.drop_succ_cons,List.drop_zero,List.take_nil,List.drop_nil,go_sem,undef,prs,prsP,w64]
 refine⟨_,.of (spec_l12Table_v os pw cj hn6 us (by omega) hld),?_⟩
 try simp-dsimp-implicitDefEqProofs (maxSteps:=800000) (disch:=omega) only[go_sem,undef,prs,prsP,w64]
 refine⟨_,.of (spec_l12Reduce_v os pw cj h hc (tbA os.length us) hT a ha),?_⟩
 try simp-dsimp-implicitDefEqProofs (maxSteps:=800000) (disch:=omega) only[go_sem,undef,prs,prsP,w64]
 refine hN _ ?_
 try clear hN N
 refine AW.ret ?_
 simp-dsimp-implicitDefEqProofs (maxSteps:=800000) (disch:=omega) only[go_sem,undef]
 rw[rdl_redF hv hc hS hcn ha];rfl
theorem spec_l14Free_v (hn:os.length≤6) (us:List V) (hl:us.length≤1000) (hu:∀k,k<us.length→ldV os.length (us.getD k z0)<os.length):ACp Tryz.prog 71 [prs os pw cj,vls os.length us] (ints (frI os.length us)):=by
 refine ACp.introV envOk Tryz.func71 rfl (by kernel_rfl) Tryz.ntmps71 Tryz.results71 ((ints_nr _)) (fun nx=> ?_)
 refine AW.sr envOk (fun N hN=> ?_)
 simp-dsimp-implicitDefEqProofs (maxSteps:=800000) (disch:=omega) only[go_sem,undef,prs,prsP,w64]
 refine hN _ ?_
 try clear hN N
 refine AW.freezeQ 2 nx _ rfl (upd_same _ _ _) ?_
 simp-dsimp-implicitDefEqProofs (maxSteps:=800000) (disch:=omega) only[go_sem,undef]
 refine AW.sr envOk (fun N hN=> ?_)
 simp-dsimp-implicitDefEqProofs (maxSteps:=800000) (disch:=omega) only[go_sem,undef,prs,prsP,w64]
 refine AC.pure (.of (spec_l12Table_v os pw cj hn us hl hu)) ?_
 try simp-dsimp-implicitDefEqProofs (maxSteps:=800000) (disch:=omega) only[go_sem,undef,prs,prsP,w64]
 refine hN _ ?_
 try clear hN N
 refine AW.sr envOk (fun N hN=> ?_)
 simp-dsimp-implicitDefEqProofs (maxSteps:=800000) (disch:=omega) only[go_sem,undef,prs,prsP,w64]
 refine hN _ ?_
 try clear hN N
 refine AW.seq (fun N1 hN1=> ?_)
 refine AW.sr envOk (fun N hN=> ?_)
 simp-dsimp-implicitDefEqProofs (maxSteps:=800000) (disch:=omega) only[go_sem,undef,prs,prsP,w64]
 refine hN _ ?_
 try clear hN N
 refine AW.block ?_
 refine AW.loopN (α:=Nat×Nat) (fun x=>sl 29 [(5,.v os.length (tbl os.length (tbA os.length us))),(6,.h x.2 0 (frU os.length us x.1).length),(7,.i .i64 x.1)]) (fun x=>upd noH x.2 (some (List.map (fun d:Nat=>AV.i .i64 (d:Int)) (frU os.length us x.1)))) (fun x m=>x.1≤os.length∧nx≤x.2∧x.2<m) (fun x=>os.length-x.1) ((0,nx+2+4)) ?_ ?_ (by intro d cs hd;simp only[upd,noH,frU,List.range_zero,List.filter_nil,List.map_nil]at hd ⊢;grind) ?_
 ·exact⟨by simp,by first|omega|(simp only;omega)|(dsimp only;omega),by first|omega|(simp only;omega)|(dsimp only;omega)⟩
 ·simp(disch:=omega) [wks,wkA,sl,prsP,ints,rows,cubes,frU]
 ·skip
  rintro⟨k,id⟩ m ⟨hk,hid,hm⟩
  dsimp only at hk hid hm ⊢
  have hfl:=frU_len (n:=os.length) (u:=us) k
  simp-dsimp-implicitDefEqProofs (maxSteps:=800000) (disch:=omega) only[go_sem,undef]
  refine AW.seq (fun N2 hN2=> ?_)
  refine AW.sr envOk (fun N hN=> ?_)
  simp-dsimp-implicitDefEqProofs (maxSteps:=800000) (disch:=omega) only[go_sem,undef,prs,prsP,w64]
  refine hN _ ?_
  try clear hN N
  refine AW.cond rfl (fun h1=> ?_) (fun h1=> ?_)
  ·try simp only[cn]at h1
   refine AW.skip ?_
   simp only[thn,blk]
   refine hN2 _ ?_
   try clear hN2 N2
   refine AW.seq (fun N3 hN3=> ?_)
   refine AW.block ?_
   refine AW.sr envOk (fun N hN=> ?_)
   simp-dsimp-implicitDefEqProofs (maxSteps:=800000) (disch:=omega) only[go_sem,undef,prs,prsP,w64]
   refine hN _ ?_
   try clear hN N
   refine AW.cond rfl (fun h2=> ?_) (fun h2=> ?_)
   ·try simp only[cn]at h2
    have hz:tbA os.length us k=none:=tkl_z (n:=os.length) (by omega) (by omega)
    have hfs:(frU os.length us (k+1)).length=(frU os.length us k).length+1:=by rw[frU_s,if_pos hz];simp
    refine AW.regionL envOk ?_
    simp-dsimp-implicitDefEqProofs (maxSteps:=800000) (disch:=omega) only[go_sem,undef,prs,prsP,w64]
    refine hN3 _ ?_
    try clear hN3 N3
    refine AW.regionL envOk ?_
    simp-dsimp-implicitDefEqProofs (maxSteps:=800000) (disch:=omega) only[go_sem,undef,prs,prsP,w64]
    refine⟨(k+1,m+4+6+3),?_,by rw[←fr_snoc hz];intro d cs hd;simp only[upd,noH,tk_map]at hd ⊢;grind,?_,?_⟩
    ·simp(disch:=omega) [wks,wkA,sl,w64,hfs]<;>omega
    ·exact⟨by first|omega|(simp only;omega)|(dsimp only;omega),by first|omega|(simp only;omega)|(dsimp only;omega),by first|omega|(simp only;omega)|(dsimp only;omega)⟩
    ·first|omega|(simp only;omega)
   ·try simp only[cn]at h2
    obtain⟨z,hz,hzv⟩:=tkl_p (n:=os.length) (o:=tbA os.length us k) (by omega)
    have hfs:frU os.length us (k+1)=frU os.length us k:=by rw[frU_s,if_neg (by rw[hz];simp)]
    refine AW.skip ?_
    simp only[thn,blk]
    refine hN3 _ ?_
    try clear hN3 N3
    refine AW.regionL envOk ?_
    simp-dsimp-implicitDefEqProofs (maxSteps:=800000) (disch:=omega) only[go_sem,undef,prs,prsP,w64]
    refine⟨(k+1,id),?_,by rw[hfs];exact Le.refl _,?_,?_⟩
    ·simp(disch:=omega) [wks,wkA,sl,w64,hfs]<;>omega
    ·exact⟨by first|omega|(simp only;omega)|(dsimp only;omega),by first|omega|(simp only;omega)|(dsimp only;omega),by first|omega|(simp only;omega)|(dsimp only;omega)⟩
    ·first|omega|(simp only;omega)
  ·try simp only[cn]at h1
   refine AW.exit ?_
   simp only[thn,blk,if_true]
   refine hN1 _ ?_
   try clear hN1 N1
   refine AW.sr envOk (fun N hN=> ?_)
   simp-dsimp-implicitDefEqProofs (maxSteps:=800000) (disch:=omega) only[go_sem,undef,prs,prsP,w64]
   refine hN _ ?_
   try clear hN N
   refine AW.ret ?_
   simp-dsimp-implicitDefEqProofs (maxSteps:=800000) (disch:=omega) only[go_sem,undef]
   obtain rfl:k=os.length:=by omega
   refine vw_ints ?_ (by rw[frI_len])
   rw[upd_same,frI,List.map_map];rfl
set_option maxHeartbeats 1000000 in
theorem spec_l15Project_v (h:presOk os pw cj) (hc:Con (pc os pw cj) 0) {S:V→Prop} (hS:Sbg (T (pc os pw cj) 0) (M (pc os pw cj) 0) S) (us:List V) (hcn:Cnl (pc os pw cj) S us) (a:V) (ha:T (pc os pw cj) 0 a):ACp Tryz.prog 73 [prs os pw cj,vls os.length us,vi os.length a] (ints (pjL (pc os pw cj) us a)):=by
 have hn6:=h.1.1
 have hv:=h.val
 have hln:=hcn.len
 have hn0:(pc os pw cj).n=os.length:=rfl
 rw[hn0]at hln
 have hld:∀k,k<us.length→ldV os.length (us.getD k z0)<os.length:=fun k hk=>(hcn.at (mem_getD hk)).1
 have hfl:=frU_len (n:=os.length) (u:=us) os.length
 have hfi:=frI_len (n:=os.length) (u:=us)
 refine ACp.introV envOk Tryz.func73 rfl (by kernel_rfl) Tryz.ntmps73 Tryz.results73 ((ints_nr _)) (fun nx=> ?_)
 refine AW.sr envOk (fun N hN=> ?_)
 simp-dsimp-implicitDefEqProofs (maxSteps:=800000) (disch:=omega) only[go_sem,undef,prs,prsP,w64,ints,gd_i,vi]
 refine hN _ ?_
 try clear hN N
 refine AW.freezeQ 3 nx _ rfl (upd_same _ _ _) ?_
 simp-dsimp-implicitDefEqProofs (maxSteps:=800000) (disch:=omega) only[go_sem,undef]
 refine AW.sr envOk (fun N hN=> ?_)
 simp-dsimp-implicitDefEqProofs (maxSteps:=800000) (disch:=omega) only[go_sem,undef,prs,prsP,w64,ints,gd_i,vi]
 refine AC.pure (.of (spec_l12Sift_v os pw cj h hc hS us hcn a ha)) ?_
 try simp-dsimp-implicitDefEqProofs (maxSteps:=800000) (disch:=omega) only[go_sem,undef,prs,prsP,w64,ints,gd_i,vi]
 refine hN _ ?_
 try clear hN N
 refine AW.sr envOk (fun N hN=> ?_)
 simp-dsimp-implicitDefEqProofs (maxSteps:=800000) (disch:=omega) only[go_sem,undef,prs,prsP,w64,ints,gd_i,vi]
 refine AC.pure (.of (spec_l14Free_v os pw cj hn6 us (by omega) hld)) ?_
 try simp-dsimp-implicitDefEqProofs (maxSteps:=800000) (disch:=omega) only[go_sem,undef,prs,prsP,w64,ints,gd_i,vi]
 refine hN _ ?_
 try clear hN N
 refine AW.sr envOk (fun N hN=> ?_)
 simp-dsimp-implicitDefEqProofs (maxSteps:=800000) (disch:=omega) only[go_sem,undef,prs,prsP,w64,ints,gd_i,vi]
 refine hN _ ?_
 try clear hN N
 refine AW.seq (fun N1 hN1=> ?_)
 refine AW.sr envOk (fun N hN=> ?_)
 simp-dsimp-implicitDefEqProofs (maxSteps:=800000) (disch:=omega) only[go_sem,undef,prs,prsP,w64,ints,gd_i,vi]
 refine hN _ ?_
 try clear hN N
 refine AW.block ?_
 refine AW.loopN (α:=Nat×Nat) (fun x=>sl 36 [(7,vi os.length (rdl (pc os pw cj) us a)),(8,ints (frI os.length us)),(9,.h x.2 0 x.1),(10,.i .i64 x.1)]) (fun x=>upd noH x.2 (some (((pjL (pc os pw cj) us a).take x.1).map (.i .i64)))) (fun x m=>x.1≤(frU os.length us os.length).length∧nx≤x.2∧x.2<m) (fun x=>(frU os.length us os.length).length-x.1) ((0,nx+2+5+4)) ?_ ?_ (by intro d cs hd;simp only[upd,noH,List.take_zero,List.map_nil]at hd ⊢;grind) ?_
 ·exact⟨by simp,by first|omega|(simp only;omega)|(dsimp only;omega),by first|omega|(simp only;omega)|(dsimp only;omega)⟩
 ·simp(disch:=omega) [wks,wkA,sl,prsP,ints,rows,cubes,vi]
 ·skip
  rintro⟨k,id⟩ m ⟨hk,hid,hm⟩
  dsimp only at hk hid hm ⊢
  have hpl:(pjL (pc os pw cj) us a).length=(frU os.length us os.length).length:=pjL_len
  have htl:((pjL (pc os pw cj) us a).take k).length=k:=by rw[List.length_take,hpl];omega
  have hmn:(k≤min k (pjL (pc os pw cj) us a).length)=True:=eq_true (by rw[hpl];omega)
  have htk:List.take k (List.map (AV.i .i64) (List.take k (pjL (pc os pw cj) us a)))=List.map (AV.i .i64) (List.take k (pjL (pc os pw cj) us a)):=List.take_of_length_le (by rw[List.length_map,htl];exact Nat.le_refl _)
  simp only[ints,vi]
  simp-dsimp-implicitDefEqProofs (maxSteps:=800000) (disch:=omega) only[go_sem,undef]
  refine AW.seq (fun N2 hN2=> ?_)
  refine AW.sr envOk (fun N hN=> ?_)
  simp-dsimp-implicitDefEqProofs (maxSteps:=800000) (disch:=omega) only[go_sem,undef,prs,prsP,w64,ints,gd_i,vi]
  refine hN _ ?_
  try clear hN N
  refine AW.cond rfl (fun h1=> ?_) (fun h1=> ?_)
  ·try simp only[cn]at h1
   obtain⟨d,hd⟩:∃d,(frU os.length us os.length).getD k 0=d:=⟨_,rfl⟩
   have hdl:=frU_lt (n:=os.length) (u:=us) (k:=os.length) (i:=k) (by omega)
   have hfg:=frI_get (n:=os.length) (u:=us) (i:=k) (by omega)
   rw[hd]at hdl hfg
   have hpg:((pjL (pc os pw cj) us a).take (k+1)).map (AV.i .i64)=((pjL (pc os pw cj) us a).take k).map (AV.i .i64)++[.i .i64 (rdl (pc os pw cj) us a d)]:=by
    rw[List.take_add_one,List.map_append]
    congr 1
    have hkl:k<(frU os.length us os.length).length:=by omega
    have hd2:(frU os.length us os.length)[k]=d:=by rw[←hd];simp[hkl]
    simp[pjL,hn0,hkl,hd2]
   refine AW.skip ?_
   simp only[thn,blk]
   refine hN2 _ ?_
   try clear hN2 N2
   refine AW.seq (fun N3 hN3=> ?_)
   refine AW.block ?_
   refine AW.regionL envOk ?_
   simp-dsimp-implicitDefEqProofs (maxSteps:=800000) (disch:=omega) only[go_sem,undef,prs,prsP,w64,ints,gd_i,vi,hfg,hmn,htk]
   refine hN3 _ ?_
   try clear hN3 N3
   refine AW.regionL envOk ?_
   simp-dsimp-implicitDefEqProofs (maxSteps:=800000) (disch:=omega) only[go_sem,undef,prs,prsP,w64,ints,gd_i,vi]
   refine⟨(k+1,m+4+9),?_,by rw[hpg];intro d cs hd;simp only[upd,noH]at hd ⊢;grind,?_,?_⟩
   ·simp(disch:=omega) [wks,wkA,sl,w64,ints,rows,cubes,prs,prsP,w64,ints,gd_i,vi]<;>omega
   ·exact⟨by first|omega|(simp only;omega)|(dsimp only;omega),by first|omega|(simp only;omega)|(dsimp only;omega),by first|omega|(simp only;omega)|(dsimp only;omega)⟩
   ·first|omega|(simp only;omega)
  ·try simp only[cn]at h1
   refine AW.exit ?_
   simp only[thn,blk,if_true]
   refine hN1 _ ?_
   try clear hN1 N1
   refine AW.sr envOk (fun N hN=> ?_)
   simp-dsimp-implicitDefEqProofs (maxSteps:=800000) (disch:=omega) only[go_sem,undef,prs,prsP,w64,ints,gd_i,vi]
   refine hN _ ?_
   try clear hN N
   refine AW.ret ?_
   simp-dsimp-implicitDefEqProofs (maxSteps:=800000) (disch:=omega) only[go_sem,undef]
   obtain rfl:k=(frU os.length us os.length).length:=by omega
   rw[List.take_of_length_le (by rw[hpl];exact Nat.le_refl _)]
   exact vw_ints (upd_same _ _ _) hpl.symm
end
end Go.Proofs.YtnlfbimjcabgiaaGreat
