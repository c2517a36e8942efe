import Derived.Test.YtlcddiojeghfgaaGreatDoorZ29
import Derived.Test.YtlcddiojeghfgaaGreatDoorZ50
set_option linter.unusedVariables false
set_option linter.unusedSimpArgs false
namespace Go.Proofs.YtlcddiojeghfgaaGreatDoor
open Nat (reduceAdd reduceSub reduceGT reduceEqDiff reduceMul)
theorem spec_l27Any_s {bs:List Int} {sid:Nat} {H:HP} (hg:srcOk bs sid H) (nx:Nat) (hsn:sid<nx):AC Tryz.prog 11 nx H [.q sid 0] (sK bs sid nx H fpzQ):=AC.zs hsn (spec_l27Any_o hg nx hsn)
theorem spec_DrawFpText_z (bs:List Int) (hb:bytsok bs) (hb4:bs.length≤4096) (nx:Nat):AC Tryz.prog 5 nx noH [byts bs] (fun _ _ r=>fpzQ r):=by
 refine AC.introx envOk Tryz.func5 rfl (by kernel_rfl) Tryz.ntmps5 Tryz.results5 (fun hfr cX=> ?_)
 refine AW.sr envOk (fun N hN=> ?_)
 simp-dsimp-implicitDefEqProofs (disch:=omega) only[go_sem,undef,w64]
 refine hN _ ?_
 try clear hN N
 refine AW.sr envOk (fun N hN=> ?_)
 simp-dsimp-implicitDefEqProofs (disch:=omega) only[go_sem,undef,w64]
 refine AC.mono2 (AC.frame (spec_l01From_n bs hb hb4 _)) ?_
 rintro m1 H1 r1 hm1 ⟨H0,⟨sid,a1,s1,rfl,hsid1,hsid2,ho1,hs0⟩,hlow,hhigh⟩
 have hs1:=(hhigh sid hsid1).trans hs0
 have h01:H1 nx=some [.i .i64 0,.nl]:=(hlow nx (by omega)).trans (upd_same _ _ _)
 try simp-dsimp-implicitDefEqProofs (disch:=omega) only[go_sem,undef,w64]
 refine(spec_l27Any_s ⟨a1,s1,ho1,hs1⟩ _ (by omega)).mono2 ?_
 rintro m2 H2 r2 hm2 ⟨⟨g,W,rfl,hW⟩,hg2,hk2⟩
 have h02:H2 nx=some [.i .i64 0,.nl]:=(hk2 nx (by omega) (by omega)).trans h01
 try simp-dsimp-implicitDefEqProofs (disch:=omega) only[go_sem,undef,fp,rows,w64,h02]
 refine hN _ ?_
 try clear hN N
 refine AW.ret ?_
 simp-dsimp-implicitDefEqProofs (disch:=omega) only[go_sem,undef]
 exact⟨_,fun _ _ h=>h,g,W,rfl,hW⟩
open Nat (reduceAdd reduceSub reduceGT reduceEqDiff reduceMul)
theorem lt_b {a:Int} (h0:a≠0) (h1: -4≤a) (h2:a≤4):lvB (UInt8.ofNat (ltr a).toNat)=a∧65≤(UInt8.ofNat (ltr a).toNat).toNat:=by
  have e:a= -4∨a= -3∨a= -2∨a= -1∨a=1∨a=2∨a=3∨a=4:=by omega
  rcases e with rfl|rfl|rfl|rfl|rfl|rfl|rfl|rfl<;>decide
theorem wtx_L {w:List Int} (h:w≠ []):(wtx w).data.toList=w.map fun a=>UInt8.ofNat (ltr a).toNat:=by
  rw[wtx,if_neg h,strOfNums_data,List.map_map];rfl
theorem wt_rd {n:Nat} (hn:n≤4) {w:List Int} (h:wordP n w):rdB n (wtx w).data.toList=true∧rdL n (wtx w).data.toList=w∧(wtx w).data.toList.count 32=0:=by
  by_cases e:w=[]
  · subst e
    have e2:(wtx []).data.toList=[49]:=by rw[wtx,if_pos rfl]
    rw[e2]
    exact⟨by rw[rdB,if_pos rfl],by rw[rdL,if_pos rfl],by decide⟩
  · have hL:∀a∈w,okB n (UInt8.ofNat (ltr a).toNat)=true∧lvB (UInt8.ofNat (ltr a).toNat)=a∧65≤(UInt8.ofNat (ltr a).toNat).toNat:=by
      intro a ha
      obtain⟨k,hk,rfl⟩:=List.mem_iff_getElem.1 ha
      have h1:=h.2 k hk
      rw[show w.getD k 0=w[k] by simp[hk]]at h1
      obtain⟨h2,h3⟩:=lt_b h1.1 (by omega) (by omega)
      refine⟨?_,h2,h3⟩
      unfold okB
      rw[h2]
      simp only[Bool.and_eq_true,decide_eq_true_eq]
      exact⟨⟨h3,h1.2.1⟩,h1.2.2⟩
    rw[wtx_L e]
    have hm:∀b∈w.map (fun a=>UInt8.ofNat (ltr a).toNat),okB n b=true∧65≤b.toNat:=by
      intro b hb
      obtain⟨a,ha,rfl⟩:=List.mem_map.1 hb
      exact⟨(hL a ha).1,(hL a ha).2.2⟩
    have h49:w.map (fun a=>UInt8.ofNat (ltr a).toNat)≠ [49]:=by
      intro q
      have:=(hm 49 (by rw[q];simp)).2
      exact absurd this (by decide)
    have hall:(w.map (fun a=>UInt8.ofNat (ltr a).toNat)).all (okB n)=true:=List.all_eq_true.2 fun b hb=>(hm b hb).1
    refine⟨?_,?_,?_⟩
    · rw[rdB,if_neg h49,hall];simp[e]
    · rw[rdL,if_neg h49,if_pos hall,List.map_map]
      have:w.map (lvB∘fun a=>UInt8.ofNat (ltr a).toNat)=w.map id:=List.map_congr_left fun a ha=>(hL a ha).2.1
      rw[this,List.map_id]
    · refine List.count_eq_zero.2 fun hb=> ?_
      exact absurd (hm 32 hb).2 (by decide)
theorem spL_join {c:UInt8}:∀(qs:List (List UInt8)) (h:List UInt8),h.count c=0→(∀q∈qs,q.count c=0)→spL c (h++Lib.joinTail [c] qs)=h::qs:=by
  intro qs
  induction qs with
  |nil=>intro h hh _;simp[Lib.joinTail,spL_zero hh]
  | cons q qs ih=>
    intro h hh hq
    rw[show h++Lib.joinTail [c] (q::qs)=h++c::(q++Lib.joinTail [c] qs) by simp[Lib.joinTail],spL_app _ hh,ih q (hq q (by simp)) (fun x hx=>hq x (by simp[hx]))]
theorem fgM_jn {g:Int} {rs:List (List Int)} (h:fpP g rs):fgM (jn (dg g) rs).data.toList=((g,rs),0):=by
  obtain⟨n,rfl⟩:∃n:Nat,g=n:=⟨g.toNat,by have:=h.1;omega⟩
  have hn:n≤4:=by have:=h.1.2;omega
  have hw:∀w∈rs,wordP n w:=by
    intro w hw
    obtain⟨k,hk,rfl⟩:=List.mem_iff_getElem.1 hw
    have:=h.2.2 k hk
    rwa [show rs.getD k []=rs[k] by simp[hk]]at this
  obtain⟨ps,hps⟩:∃ps,(rs.map fun w=>(wtx w).data.toList)=ps:=⟨_,rfl⟩
  have hs:spL 32 ([UInt8.ofNat (48+n)]++Lib.joinTail [32] ps)=[UInt8.ofNat (48+n)]::ps:=spL_join ps _ (dg_cnt n hn) (by
    intro q hq
    rw[←hps]at hq
    obtain⟨w,hw2,rfl⟩:=List.mem_map.1 hq
    exact(wt_rd hn (hw w hw2)).2.2)
  have he:wdsP n ps=rs:=by
    rw[wds_eq hn,←hps,wdsI,List.map_map]
    have:rs.map (rdL n∘fun w=>(wtx w).data.toList)=rs.map id:=List.map_congr_left fun w hw2=>(wt_rd hn (hw w hw2)).2.1
    rw[this,List.map_id]
  rw[jn_join,dgLk n hn,hps]
  unfold fgM
  rw[hs]
  show fgH _ ps=_
  have hq:fgQ n ps:=⟨fun k hk=>by
    rw[(par_rd hn _).2,←hps]
    have hk2:k<rs.length:=by rw[←hps,List.length_map]at hk;exact hk
    rw[show(rs.map fun w=>(wtx w).data.toList).getD k []=(wtx rs[k]).data.toList by simp[hk2]]
    exact(wt_rd hn (hw _ (List.getElem_mem hk2))).1,by rw[he];exact h⟩
  rw[fgH_yes (by rw[dg_val n hn];exact hq),dg_val n hn,he]
theorem jn_len {g:Int} {rs:List (List Int)} (h:fpP g rs):(jn (dg g) rs).data.toList.length≤1048576:=by
  rw[szl]
  have h1:=jn_size (d:=dg g) (rs:=rs) (fun k hk=>(h.2.2 k hk).1) rs.length (Nat.le_refl _)
  rw[List.take_length,dg_size h.1.1 (by have:=h.1.2;omega)]at h1
  have:=h.2.1
  omega
theorem laws_big_ok (bs:List Int) (hb:bs.length≤9223372036854775807):ACp Tryz.prog 4 [byts bs] (.b (decide ((bs.length:Int)>4096))):=by
 refine ACp.intro' envOk Tryz.func4 rfl (by kernel_rfl) Tryz.ntmps4 Tryz.results4 (.b _) (fun nx cX=> ?_)
 refine AW.sr envOk (fun N hN=> ?_)
 simp-dsimp-implicitDefEqProofs (disch:=omega) only[go_sem,undef,byts,w64]
 refine hN _ ?_
 try clear hN N
 refine AW.sr envOk (fun N hN=> ?_)
 simp-dsimp-implicitDefEqProofs (disch:=omega) only[go_sem,undef,byts,w64]
 refine hN _ ?_
 try clear hN N
 refine AW.ret ?_
 simp-dsimp-implicitDefEqProofs (disch:=omega) only[go_sem,undef]
 try rfl
theorem laws_likeInts_e (a:List Int) (ha:a.length≤1048576):ACp Tryz.prog 21 [ints a,ints a] (.b true):=by
 refine ACp.intro' envOk Tryz.func21 rfl (by kernel_rfl) Tryz.ntmps21 Tryz.results21 (.b _) (fun nx cX=> ?_)
 refine AW.sr envOk (fun N hN=> ?_)
 simp-dsimp-implicitDefEqProofs (disch:=omega) only[go_sem,undef,ints,gd_i,w64,bne_self_eq_false]
 refine hN _ ?_
 try clear hN N
 refine AW.seq (fun N1 hN1=> ?_)
 refine AW.sr envOk (fun N hN=> ?_)
 simp-dsimp-implicitDefEqProofs (disch:=omega) only[go_sem,undef,ints,gd_i,w64,bne_self_eq_false]
 refine hN _ ?_
 try clear hN N
 refine AW.condF rfl ?_
 refine AW.skip ?_
 simp only[thn,blk]
 refine hN1 _ ?_
 try clear hN1 N1
 refine AW.seq (fun N2 hN2=> ?_)
 refine AW.sr envOk (fun N hN=> ?_)
 simp-dsimp-implicitDefEqProofs (disch:=omega) only[go_sem,undef,ints,gd_i,w64,bne_self_eq_false]
 refine hN _ ?_
 try clear hN N
 refine AW.block ?_
 refine AW.loopN (α:=Nat) (fun x=>sl 26 [(0,ints a),(1,ints a),(5,.i .i64 x)]) (fun _=>noH) (fun x m=>x≤a.length) (fun x=>a.length-x) (0) ?_ ?_ (fun _ _ h=>h) ?_
 ·omega
 ·simp(disch:=omega) [wks,wkA,sl,w64,ints,rows,cubes,ints,gd_i,w64,bne_self_eq_false]<;>omega
 ·skip
  rintro k m hk
  simp-dsimp-implicitDefEqProofs (disch:=omega) only[go_sem,undef]
  refine AW.seq (fun N3 hN3=> ?_)
  refine AW.sr envOk (fun N hN=> ?_)
  simp-dsimp-implicitDefEqProofs (disch:=omega) only[go_sem,undef,ints,gd_i,w64,bne_self_eq_false]
  refine hN _ ?_
  try clear hN N
  refine AW.cond rfl (fun h1=> ?_) (fun h1=> ?_)
  ·try simp only[cn]at h1
   refine AW.skip ?_
   simp only[thn,blk]
   refine hN3 _ ?_
   try clear hN3 N3
   refine AW.seq (fun N4 hN4=> ?_)
   refine AW.block ?_
   refine AW.seq (fun N hN=> ?_)
   refine AW.drawF envOk (by kernel_rfl) [true,true,true,true,true,true,true,true,true] (by kernel_rfl) ?_
   simp-dsimp-implicitDefEqProofs (disch:=omega) only[go_sem,undef,ints,gd_i,w64,bne_self_eq_false]
   refine hN _ ?_
   try clear hN N
   refine AW.condF rfl ?_
   refine AW.skip ?_
   simp only[thn,blk]
   refine hN4 _ ?_
   try clear hN4 N4
   refine AW.regionL envOk ?_
   simp-dsimp-implicitDefEqProofs (disch:=omega) only[go_sem,undef,ints,gd_i,w64,bne_self_eq_false]
   refine⟨k+1,?_,fun _ _ h=>h,?_,?_⟩
   ·simp(disch:=omega) [wks,wkA,sl,w64,ints,rows,cubes,ints,gd_i,w64,bne_self_eq_false]<;>omega
   ·omega
   ·first|omega|(simp only;omega)
  ·try simp only[cn]at h1
   refine AW.exit ?_
   simp only[thn,blk,if_true]
   refine hN2 _ ?_
   try clear hN2 N2
   refine AW.sr envOk (fun N hN=> ?_)
   simp-dsimp-implicitDefEqProofs (disch:=omega) only[go_sem,undef,ints,gd_i,w64,bne_self_eq_false]
   refine hN _ ?_
   try clear hN N
   refine AW.ret ?_
   simp-dsimp-implicitDefEqProofs (disch:=omega) only[go_sem,undef]
   all_goals rfl
theorem laws_like29_e (a:List (List Int)) (ha:rowslen a):ACp Tryz.prog 10 [rows a,rows a] (.b true):=by
 have han:=ha.n
 refine ACp.intro' envOk Tryz.func10 rfl (by kernel_rfl) Tryz.ntmps10 Tryz.results10 (.b _) (fun nx cX=> ?_)
 refine AW.sr envOk (fun N hN=> ?_)
 simp-dsimp-implicitDefEqProofs (disch:=omega) only[go_sem,undef,rows,gd_r,w64,bne_self_eq_false]
 refine hN _ ?_
 try clear hN N
 refine AW.seq (fun N1 hN1=> ?_)
 refine AW.sr envOk (fun N hN=> ?_)
 simp-dsimp-implicitDefEqProofs (disch:=omega) only[go_sem,undef,rows,gd_r,w64,bne_self_eq_false]
 refine hN _ ?_
 try clear hN N
 refine AW.condF rfl ?_
 refine AW.skip ?_
 simp only[thn,blk]
 refine hN1 _ ?_
 try clear hN1 N1
 refine AW.seq (fun N2 hN2=> ?_)
 refine AW.sr envOk (fun N hN=> ?_)
 simp-dsimp-implicitDefEqProofs (disch:=omega) only[go_sem,undef,rows,gd_r,w64,bne_self_eq_false]
 refine hN _ ?_
 try clear hN N
 refine AW.block ?_
 refine AW.loopN (α:=Nat) (fun x=>sl 27 [(0,rows a),(1,rows a),(5,.i .i64 x)]) (fun _=>noH) (fun x m=>x≤a.length) (fun x=>a.length-x) (0) ?_ ?_ (by intro d cs hd;cases hd) ?_
 ·omega
 ·simp(disch:=omega) [wks,wkA,sl,w64,ints,rows,cubes,rows,gd_r,w64,bne_self_eq_false]<;>omega
 ·skip
  rintro k m hk
  simp-dsimp-implicitDefEqProofs (disch:=omega) only[go_sem,undef]
  refine AW.seq (fun N3 hN3=> ?_)
  refine AW.sr envOk (fun N hN=> ?_)
  simp-dsimp-implicitDefEqProofs (disch:=omega) only[go_sem,undef,rows,gd_r,w64,bne_self_eq_false]
  refine hN _ ?_
  try clear hN N
  refine AW.cond rfl (fun h1=> ?_) (fun h1=> ?_)
  ·try simp only[cn]at h1
   refine AW.skip ?_
   simp only[thn,blk]
   refine hN3 _ ?_
   try clear hN3 N3
   refine AW.seq (fun N4 hN4=> ?_)
   refine AW.block ?_
   refine AW.seq (fun N hN=> ?_)
   refine AW.drawF envOk (by kernel_rfl) [true,true,true,true,true,true,true,true,false,false] (by kernel_rfl) ?_
   simp-dsimp-implicitDefEqProofs (disch:=omega) only[go_sem,undef,rows,gd_r,w64,bne_self_eq_false]
   refine AC.pure (.of (laws_likeInts_e (a.getD k []) (getD_mem ha.v (by simp) k))) ?_
   try simp-dsimp-implicitDefEqProofs (disch:=omega) only[go_sem,undef,rows,gd_r,w64,bne_self_eq_false]
   refine hN _ ?_
   try clear hN N
   refine AW.condF rfl ?_
   refine AW.skip ?_
   simp only[thn,blk]
   refine hN4 _ ?_
   try clear hN4 N4
   refine AW.regionL envOk ?_
   simp-dsimp-implicitDefEqProofs (disch:=omega) only[go_sem,undef,rows,gd_r,w64,bne_self_eq_false]
   refine⟨k+1,?_,fun _ _ h=>h,?_,?_⟩
   ·simp(disch:=omega) [wks,wkA,sl,w64,ints,rows,cubes,rows,gd_r,w64,bne_self_eq_false]<;>omega
   ·omega
   ·first|omega|(simp only;omega)
  ·try simp only[cn]at h1
   refine AW.exit ?_
   simp only[thn,blk,if_true]
   refine hN2 _ ?_
   try clear hN2 N2
   refine AW.sr envOk (fun N hN=> ?_)
   simp-dsimp-implicitDefEqProofs (disch:=omega) only[go_sem,undef,rows,gd_r,w64,bne_self_eq_false]
   refine hN _ ?_
   try clear hN N
   refine AW.ret ?_
   simp-dsimp-implicitDefEqProofs (disch:=omega) only[go_sem,undef]
   all_goals rfl
end Go.Proofs.YtlcddiojeghfgaaGreatDoor
