import Derived.Test.YtnlfbimjcabgiaaGreatZ28
import Derived.Test.YtnlfbimjcabgiaaGreatZ36
set_option linter.unusedVariables false
set_option linter.unusedSimpArgs false
namespace Go.Proofs.YtnlfbimjcabgiaaGreat
open Nat (reduceAdd reduceSub reduceGT reduceEqDiff reduceMul)
theorem vlS {n:Nat} {X:List V} {k:Nat} {y:V} (h:k<X.length) (hy:X.getD k z0=y):(X.take k).map (vi n)++[vi n y]=(X.take (k+1)).map (vi n):=by
  rw[List.take_add_one,List.map_append]
  congr 1
  rw[←hy]
  simp[h]
theorem take_snoc {X:List V} {k:Nat} {y:V} (h:k<X.length) (hy:X.getD k z0=y):X.take (k+1)=X.take k++[y]:=by
  rw[List.take_add_one,←hy]
  simp[h]
theorem mem_getD {X:List V} {k:Nat} (h:k<X.length):X.getD k z0∈X:=by rw[List.getD_eq_getElem?_getD,List.getElem?_eq_getElem h];exact List.getElem_mem _
theorem coL_step {P:Pc} {us vs:List V} {k:Nat} {x:V} (h:k<us.length) (hx:us.getD k z0=x):coL P (us.take (k+1)) vs=coL P (us.take k) vs++vs.map fun y=>cmI P x y:=by
  rw[take_snoc h hx]
  unfold coL
  rw[List.flatMap_append]
  simp
theorem cjL_step {P:Pc} {us bs:List V} {k:Nat} {b:V} (h:k<bs.length) (hb:bs.getD k z0=b):cjL P us (bs.take (k+1))=cjL P us (bs.take k)++us.map fun a=>cjE P a b:=by
  rw[take_snoc h hb]
  unfold cjL
  rw[List.flatMap_append]
  simp
theorem map_step {f:V→V} {X:List V} {k:Nat} {y:V} (h:k<X.length) (hy:X.getD k z0=y):(X.take (k+1)).map f=(X.take k).map f++[f y]:=by
  rw[take_snoc h hy,List.map_append];rfl
theorem coL_len {P:Pc} {us vs:List V}:(coL P us vs).length=us.length*vs.length:=by
  induction us with
  |nil=>simp[coL]
  | cons a us ih=>
    show((vs.map fun y=>cmI P a y)++coL P us vs).length=_
    rw[List.length_append,ih,List.length_map,List.length_cons,Nat.succ_mul,Nat.add_comm]
theorem cjL_len {P:Pc} {us bs:List V}:(cjL P us bs).length=bs.length*us.length:=by
  induction bs with
  |nil=>simp[cjL]
  | cons b bs ih=>
    show((us.map fun a=>cjE P a b)++cjL P us bs).length=_
    rw[List.length_append,ih,List.length_map,List.length_cons,Nat.succ_mul,Nat.add_comm]
theorem Fz.vls {H:HP} {id k n:Nat} {cs:List AV} {X:List V} (hc:H id=some cs) (he:cs=X.map (vi n)) (hk:k=X.length):Fz H (upd H id none) (.h id 0 k) (Go.Proofs.YtnlfbimjcabgiaaGreat.vls n X):=by
  subst he hk
  exact Fz.blk hc (by simp)
theorem one_vlT {n:Nat} {us:List V}:(∀z∈List.map (vi n) us,one z=true)=True:=eq_true fun z hz=>by
  obtain⟨a,_,rfl⟩:=List.mem_map.1 hz;rfl
theorem cmV_cmI {P:Pc} (hv:Val P) (hc:Con P 0) {x y:V} (hx:T P 0 x) (hy:T P 0 y):cmV P x y=cmI P x y:=by
  have g:=con_grp hv hc
  have h1:=g.cl hy hx
  have h2:=g.cl hx hy
  obtain⟨i1,i2⟩:=inv_T g h1
  obtain⟨c1,c2⟩:=cmI_sp hv hc hx hy
  refine g.lc h1 (g.cl i1 h2) c1 ?_
  rw[c2]
  unfold cmV
  rw[←g.ac h1 i1 h2,i2,g.l1 h2]
theorem spec_l02Unit_v (n:Nat) (hn:n≤1000):ACp Tryz.prog 113 [.i .i64 n] (vls n (unL n)):=by
 have hul:=unL_len (n:=n)
 refine ACp.introV envOk Tryz.func113 rfl (by kernel_rfl) Tryz.ntmps113 Tryz.results113 ((vls_nr _ _)) (fun nx=> ?_)
 refine AW.sr envOk (fun N hN=> ?_)
 simp-dsimp-implicitDefEqProofs (maxSteps:=800000) (disch:=omega) only[go_sem,undef,w64]
 refine hN _ ?_
 try clear hN N
 refine AW.sr envOk (fun N hN=> ?_)
 simp-dsimp-implicitDefEqProofs (maxSteps:=800000) (disch:=omega) only[go_sem,undef,w64]
 refine hN _ ?_
 try clear hN N
 refine AW.seq (fun N1 hN1=> ?_)
 refine AW.sr envOk (fun N hN=> ?_)
 simp-dsimp-implicitDefEqProofs (maxSteps:=800000) (disch:=omega) only[go_sem,undef,w64]
 refine hN _ ?_
 try clear hN N
 refine AW.block ?_
 refine AW.loopN (α:=Nat×Nat) (fun x=>sl 22 [(0,.i .i64 n),(3,.h x.2 0 x.1),(4,.i .i64 x.1)]) (fun x=>upd noH x.2 (some (((unL n).take x.1).map (vi n)))) (fun x m=>x.1≤n∧nx≤x.2∧x.2<m) (fun x=>n-x.1) ((0,nx+1)) ?_ ?_ (by intro d cs hd;simp only[upd,noH,List.map_nil,List.take_zero]at hd ⊢;grind) ?_
 ·exact⟨by simp,by first|omega|(simp only;omega)|(dsimp only;omega),by first|omega|(simp only;omega)|(dsimp only;omega)⟩
 ·simp(disch:=omega) [wks,wkA,sl,w64]
 ·skip
  rintro⟨k,id⟩ m ⟨hk,hid,hm⟩
  dsimp only at hk hid hm ⊢
  have htl:((unL n).take k).length=k:=by rw[List.length_take];omega
  simp-dsimp-implicitDefEqProofs (maxSteps:=800000) (disch:=omega) only[go_sem,undef]
  refine AW.seq (fun N2 hN2=> ?_)
  refine AW.sr envOk (fun N hN=> ?_)
  simp-dsimp-implicitDefEqProofs (maxSteps:=800000) (disch:=omega) only[go_sem,undef,w64]
  refine hN _ ?_
  try clear hN N
  refine AW.cond rfl (fun h1=> ?_) (fun h1=> ?_)
  ·try simp only[cn]at h1
   refine AW.skip ?_
   simp only[thn,blk]
   refine hN2 _ ?_
   try clear hN2 N2
   refine AW.seq (fun N3 hN3=> ?_)
   refine AW.block ?_
   refine AW.sr envOk (fun N hN=> ?_)
   simp-dsimp-implicitDefEqProofs (maxSteps:=800000) (disch:=omega) only[go_sem,undef,w64]
   refine hN _ ?_
   try clear hN N
   refine AW.sr envOk (fun N hN=> ?_)
   simp-dsimp-implicitDefEqProofs (maxSteps:=800000) (disch:=omega) only[go_sem,undef,w64]
   refine hN _ ?_
   try clear hN N
   rw[ivs_zero,ivs_set (by omega),show(fset (fun _=>0) k 1:V)=un k from rfl]
   refine AW.freeze 5 (m+3+1) n _ rfl (upd_same _ _ _) ivs_len ?_
   simp-dsimp-implicitDefEqProofs (maxSteps:=800000) (disch:=omega) only[go_sem,undef]
   refine AW.regionL envOk ?_
   simp-dsimp-implicitDefEqProofs (maxSteps:=800000) (disch:=omega) only[go_sem,undef,w64]
   refine hN3 _ ?_
   try clear hN3 N3
   refine AW.regionL envOk ?_
   simp-dsimp-implicitDefEqProofs (maxSteps:=800000) (disch:=omega) only[go_sem,undef,w64]
   refine⟨(k+1,m+3+3+4+3),?_,by rw[←vlS (by omega) (unL_get (by omega))];intro d cs hd;simp only[upd,noH,vi]at hd ⊢;grind,?_,?_⟩
   ·simp(disch:=omega) [wks,wkA,sl,w64,ints,rows,cubes,w64]<;>omega
   ·exact⟨by omega,by first|omega|(simp only;omega)|(dsimp only;omega),by first|omega|(simp only;omega)|(dsimp only;omega)⟩
   ·first|omega|(simp only;omega)
  ·try simp only[cn]at h1
   refine AW.exit ?_
   simp only[thn,blk,if_true]
   refine hN1 _ ?_
   try clear hN1 N1
   refine AW.sr envOk (fun N hN=> ?_)
   simp-dsimp-implicitDefEqProofs (maxSteps:=800000) (disch:=omega) only[go_sem,undef,w64]
   refine hN _ ?_
   try clear hN N
   refine AW.ret ?_
   simp-dsimp-implicitDefEqProofs (maxSteps:=800000) (disch:=omega) only[go_sem,undef]
   obtain rfl:k=n:=by omega
   rw[show(unL k).take k=unL k from List.take_of_length_le (by omega)]
   unfold vls
   rw[hul]
   exact Vw.blk (upd_same _ _ _) (by simp[hul])
section
variable (os:List Int) (pw:List (List Int)) (cj:List (List (List Int)))
theorem spec_l12Whole_v (hn:os.length≤1000):ACp Tryz.prog 69 [prs os pw cj] (vls os.length (unL os.length)):=by
 refine ACp.intro' envOk Tryz.func69 rfl (by kernel_rfl) Tryz.ntmps69 Tryz.results69 (vls_nr _ _) (fun nx=> ?_)
 refine AW.sr envOk (fun N hN=> ?_)
 simp-dsimp-implicitDefEqProofs (maxSteps:=800000) (disch:=omega) only[go_sem,undef,prs,prsP,w64]
 refine hN _ ?_
 try clear hN N
 refine AW.sr envOk (fun N hN=> ?_)
 simp-dsimp-implicitDefEqProofs (maxSteps:=800000) (disch:=omega) only[go_sem,undef,prs,prsP,w64]
 refine AC.pure (.of (spec_l02Unit_v os.length hn)) ?_
 try simp-dsimp-implicitDefEqProofs (maxSteps:=800000) (disch:=omega) only[go_sem,undef,prs,prsP,w64]
 refine hN _ ?_
 try clear hN N
 refine AW.ret ?_
 simp-dsimp-implicitDefEqProofs (maxSteps:=800000) (disch:=omega) only[go_sem,undef]
 skip
theorem spec_l10Conj_ok (h:presOk os pw cj) (hc:Con (pc os pw cj) 0) (a b:V) (ha:T (pc os pw cj) 0 a) (hb:T (pc os pw cj) 0 b):ACp Tryz.prog 75 [prs os pw cj,vi os.length a,vi os.length b] (vi os.length (cjE (pc os pw cj) a b)):=by
 have hg:=con_grp h.val hc
 refine ACp.intro' envOk Tryz.func75 rfl (by kernel_rfl) Tryz.ntmps75 Tryz.results75 (vi_nr _ _) (fun nx=> ?_)
 refine AW.sr envOk (fun N hN=> ?_)
 simp-dsimp-implicitDefEqProofs (maxSteps:=800000) (disch:=omega) only[go_sem,undef,prs,prsP,w64]
 refine hN _ ?_
 try clear hN N
 refine AW.freezeQ 3 nx _ rfl (upd_same _ _ _) ?_
 simp-dsimp-implicitDefEqProofs (maxSteps:=800000) (disch:=omega) only[go_sem,undef]
 refine AW.seq (fun N hN=> ?_)
 refine AW.drawL envOk (by kernel_rfl) 10 (by kernel_rfl) ?_
 simp-dsimp-implicitDefEqProofs (maxSteps:=800000) (disch:=omega) only[hr_nil,hr_one,hr_if,List.take_succ_cons,List.take_zero,List.drop_succ_cons,List.drop_zero,List.take_nil,List.drop_nil,go_sem,undef,prs,prsP,w64]
 refine⟨_,.of (spec_l10Inv_ok os pw cj h hc _ hb),?_⟩
 try simp-dsimp-implicitDefEqProofs (maxSteps:=800000) (disch:=omega) only[go_sem,undef,prs,prsP,w64]
 refine⟨_,.of (spec_l08Mul_ok os pw cj h _ _ ha hb),?_⟩
 try simp-dsimp-implicitDefEqProofs (maxSteps:=800000) (disch:=omega) only[go_sem,undef,prs,prsP,w64]
 refine⟨_,.of (spec_l08Mul_ok os pw cj h _ _ (inv_T hg hb).1 (hg.cl ha hb)),?_⟩
 try simp-dsimp-implicitDefEqProofs (maxSteps:=800000) (disch:=omega) only[go_sem,undef,prs,prsP,w64]
 refine hN _ ?_
 try clear hN N
 refine AW.ret ?_
 simp-dsimp-implicitDefEqProofs (maxSteps:=800000) (disch:=omega) only[go_sem,undef]
 try rfl
theorem spec_l12Close_c (h:presOk os pw cj) (hc:Con (pc os pw cj) 0) (us:List V) (hl:us.length≤1000) (hu:∀x∈us,T (pc os pw cj) 0 x):ACp Tryz.prog 55 [prs os pw cj,vls os.length us] (vls os.length (cloU (pc os pw cj) us)):=
  spec_l12Close_ok os pw cj h hc us hl hu
theorem spec_l12Close_m (h:presOk os pw cj) (hc:Con (pc os pw cj) 0) (us:List V) (hl:us.length≤1000) (hu:∀x∈us,T (pc os pw cj) 0 x) (nx:Nat):AC Tryz.prog 55 nx noH [prs os pw cj,vls os.length us] (fun nx' H' r=>OwS os.length nx nx' noH H' r (cloU (pc os pw cj) us)):=
  spec_l12Close_n os pw cj h hc us hl hu nx
set_option maxRecDepth 20000 in
set_option maxHeartbeats 1000000 in
theorem spec_l13Stable_n (h:presOk os pw cj) (hc:Con (pc os pw cj) 0) (us bs:List V) (hl:us.length≤6) (hbl:bs.length≤20) (hu:∀x∈us,T (pc os pw cj) 0 x) (hb:∀x∈bs,T (pc os pw cj) 0 x) (hcn:Cnl (pc os pw cj) (GL (pc os pw cj) us) us) (nx:Nat):AC Tryz.prog 141 nx noH [prs os pw cj,vls os.length us,vls os.length bs] (fun nx' H' r=>OwS os.length nx nx' noH H' r (stF (pc os pw cj) bs (os.length+1) us)):=by
 have hn6:=h.1.1
 have hv:=h.val
 have hpr:=h.2.1
 have hp:∀d,d<(pc os pw cj).n→pr4 ((pc os pw cj).o d):=fun d hd=>hpr d hd
 have hn0:(pc os pw cj).n=os.length:=rfl
 obtain⟨R,hR⟩:∃R,stF (pc os pw cj) bs (os.length+1) us=R:=⟨_,rfl⟩
 rw[hR]
 refine AC.introx envOk Tryz.func141 rfl (by kernel_rfl) Tryz.ntmps141 Tryz.results141 (fun hfr=> ?_)
 refine AW.sr envOk (fun N hN=> ?_)
 simp-dsimp-implicitDefEqProofs (maxSteps:=800000) (disch:=omega) only[go_sem,undef,prs,prsP,w64,vls,vi]
 refine hN _ ?_
 try clear hN N
 refine AW.freezeQ 3 nx _ rfl (upd_same _ _ _) ?_
 simp-dsimp-implicitDefEqProofs (maxSteps:=800000) (disch:=omega) only[go_sem,undef]
 refine AW.sr envOk (fun N hN=> ?_)
 simp-dsimp-implicitDefEqProofs (maxSteps:=800000) (disch:=omega) only[go_sem,undef,prs,prsP,w64,vls,vi]
 refine hN _ ?_
 try clear hN N
 refine AW.block ?_
 refine AW.loopN (α:=List V×Nat) (fun x=>sl 50 [(2,vls os.length bs),(3,prsP os pw cj),(7,vls os.length x.1)]) (fun _=>noH) (fun x m=>(x.1.length≤6∧os.length<x.1.length+x.2∧nx≤m)∧(∀y∈x.1,T (pc os pw cj) 0 y)∧Cnl (pc os pw cj) (GL (pc os pw cj) x.1) x.1∧stF (pc os pw cj) bs x.2 x.1=R) (fun x=>x.2) ((us,os.length+1)) ?_ ?_ (by intro d cs hd;cases hd) ?_
 ·exact⟨⟨hl,by first|omega|(simp only;omega)|(dsimp only;omega),by first|omega|(simp only;omega)|(dsimp only;omega)⟩,hu,hcn,hR⟩
 ·simp(disch:=omega) [wks,wkA,sl,prsP,ints,rows,cubes,vls]
 ·skip
  rintro⟨out,f⟩ m ⟨⟨hol,hf,hnxm⟩,hoT,hoc,hC⟩
  dsimp only at hol hf hnxm hoT hoc hC ⊢
  simp only[prsP,vls]
  simp-dsimp-implicitDefEqProofs (maxSteps:=800000) (disch:=omega) only[go_sem,undef]
  refine AW.block ?_
  refine AW.sr envOk (fun N hN=> ?_)
  simp-dsimp-implicitDefEqProofs (maxSteps:=800000) (disch:=omega) only[go_sem,undef,prs,prsP,w64,vls,vi]
  refine AC.mono (AC.frame (spec_l01Own2_n os (by omega) out (by omega) _)) ?_
  rintro m1 H1 r1 ⟨H0,⟨id,rfl,hid1,hid2,hHid⟩,hlow,hhigh⟩
  have hH1:=(hhigh id hid1).trans hHid
  clear hHid hhigh hlow
  try simp-dsimp-implicitDefEqProofs (maxSteps:=800000) (disch:=omega) only[go_sem,undef,prs,prsP,w64,vls,vi]
  refine hN _ ?_
  try clear hN N
  refine AW.seq (fun N1 hN1=> ?_)
  refine AW.sr envOk (fun N hN=> ?_)
  simp-dsimp-implicitDefEqProofs (maxSteps:=800000) (disch:=omega) only[go_sem,undef,prs,prsP,w64,vls,vi]
  refine hN _ ?_
  try clear hN N
  refine AW.block ?_
  refine AW.loopN (α:=Nat×Nat×List V) (fun x=>sl 50 [(2,vls os.length bs),(3,prsP os pw cj),(7,vls os.length out),(8,.h x.2.1 0 x.2.2.length),(9,.i .i64 x.1)]) (fun x=>upd noH x.2.1 (some (x.2.2.map (vi os.length)))) (fun x m=>(x.1≤bs.length∧nx≤x.2.1∧x.2.1<m)∧x.2.2=out++cjL (pc os pw cj) out (bs.take x.1)) (fun x=>bs.length-x.1) ((0,id,out)) ?_ ?_ (by intro d cs hd;simp only[upd,noH]at hd ⊢;grind) ?_
  ·exact⟨⟨by omega,by first|omega|(simp only;omega)|(dsimp only;omega),by first|omega|(simp only;omega)|(dsimp only;omega)⟩,by simp[cjL]⟩
  ·simp(disch:=omega) [wks,wkA,sl,prsP,ints,rows,cubes,vls]<;>omega
  ·skip
   rintro⟨i,id3,K⟩ m2 ⟨⟨hi,hid3,hid4⟩,hK⟩
   dsimp only at hi hid3 hid4 hK ⊢
   simp only[prsP,vls]
   simp-dsimp-implicitDefEqProofs (maxSteps:=800000) (disch:=omega) only[go_sem,undef]
   refine AW.seq (fun N2 hN2=> ?_)
   refine AW.sr envOk (fun N hN=> ?_)
   simp-dsimp-implicitDefEqProofs (maxSteps:=800000) (disch:=omega) only[go_sem,undef,prs,prsP,w64,vls,vi]
   refine hN _ ?_
   try clear hN N
   refine AW.cond rfl (fun h1=> ?_) (fun h1=> ?_)
   ·try simp only[cn]at h1
    obtain⟨b,hbe⟩:∃b,bs.getD i z0=b:=⟨_,rfl⟩
    have hbT:T (pc os pw cj) 0 b:=by rw[←hbe];exact hb _ (mem_getD (by omega))
    have hcj1:=cjL_step (P:=pc os pw cj) (us:=out) (show i<bs.length by omega) hbe
    have hcl:=cjL_len (P:=pc os pw cj) (us:=out) (bs:=bs.take i)
    have hcb:(bs.take i).length*out.length≤20*6:=Nat.mul_le_mul (by rw[List.length_take];omega) hol
    refine AW.skip ?_
    simp only[thn,blk]
    refine hN2 _ ?_
    try clear hN2 N2
    refine AW.seq (fun N3 hN3=> ?_)
    refine AW.block ?_
    refine AW.sr envOk (fun N hN=> ?_)
    simp-dsimp-implicitDefEqProofs (maxSteps:=800000) (disch:=omega) only[go_sem,undef,prs,prsP,w64,vls,vi]
    refine hN _ ?_
    try clear hN N
    refine AW.block ?_
    refine AW.loopN (α:=Nat×Nat×List V) (fun x=>sl 50 [(2,vls os.length bs),(3,prsP os pw cj),(7,vls os.length out),(8,.h x.2.1 0 x.2.2.length),(9,.i .i64 i),(10,.i .i64 x.1)]) (fun x=>upd noH x.2.1 (some (x.2.2.map (vi os.length)))) (fun x m=>(x.1≤out.length∧nx≤x.2.1∧x.2.1<m)∧x.2.2=K++(out.take x.1).map fun a=>cjE (pc os pw cj) a b) (fun x=>out.length-x.1) ((0,id3,K)) ?_ ?_ (fun _ _ h=>h) ?_
    ·exact⟨⟨by omega,by first|omega|(simp only;omega)|(dsimp only;omega),by first|omega|(simp only;omega)|(dsimp only;omega)⟩,by simp⟩
    ·simp(disch:=omega) [wks,wkA,sl,prsP,ints,rows,cubes,vls]<;>omega
    ·skip
     rintro⟨j,id5,K2⟩ m3 ⟨⟨hj,hid5,hid6⟩,hK2⟩
     dsimp only at hj hid5 hid6 hK2 ⊢
     simp only[prsP,vls]
     simp-dsimp-implicitDefEqProofs (maxSteps:=800000) (disch:=omega) only[go_sem,undef]
     have hKl:K2.length≤1000:=by
      rw[hK2,List.length_append,List.length_map,List.length_take,hK,List.length_append,hcl];omega
     refine AW.seq (fun N4 hN4=> ?_)
     refine AW.sr envOk (fun N hN=> ?_)
     simp-dsimp-implicitDefEqProofs (maxSteps:=800000) (disch:=omega) only[go_sem,undef,prs,prsP,w64,vls,vi]
     refine hN _ ?_
     try clear hN N
     refine AW.cond rfl (fun h2=> ?_) (fun h2=> ?_)
     ·try simp only[cn]at h2
      have hms:=map_step (f:=fun a=>cjE (pc os pw cj) a b) (show j<out.length by omega) rfl
      refine AW.skip ?_
      simp only[thn,blk]
      refine hN4 _ ?_
      try clear hN4 N4
      refine AW.seq (fun N5 hN5=> ?_)
      refine AW.block ?_
      refine AW.drawL envOk (by kernel_rfl) 12 (by kernel_rfl) ?_
      simp-dsimp-implicitDefEqProofs (maxSteps:=800000) (disch:=omega) only[hr_nil,hr_one,hr_if,List.take_succ_cons,List.take_zero,List.drop_succ_cons,List.drop_zero,List.take_nil,List.drop_nil,go_sem,undef,prs,prsP,w64,vls,vi,hbe]
      refine⟨_,.of (spec_l10Conj_ok os pw cj h hc _ b (hoT _ (mem_getD (by omega))) hbT),?_⟩
      try simp-dsimp-implicitDefEqProofs (maxSteps:=800000) (disch:=omega) only[go_sem,undef,prs,prsP,w64,vls,vi]
      refine hN5 _ ?_
      try clear hN5 N5
      refine AW.regionL envOk ?_
      simp-dsimp-implicitDefEqProofs (maxSteps:=800000) (disch:=omega) only[go_sem,undef,prs,prsP,w64,vls,vi]
      refine⟨(j+1,m3+4+12,K2++[cjE (pc os pw cj) (out.getD j z0) b]),?_,by intro d cs hd;simp only[upd,noH,tk_map,List.map_append,List.map_cons,List.map_nil,vi]at hd ⊢;grind,?_,?_⟩
      ·simp(disch:=omega) [wks,wkA,sl,w64,ints,rows,cubes,prs,prsP,w64,vls,vi]<;>omega
      ·exact⟨⟨by omega,by first|omega|(simp only;omega)|(dsimp only;omega),by first|omega|(simp only;omega)|(dsimp only;omega)⟩,by (try simp only[]);rw[hms,hK2,List.append_assoc]⟩
      ·first|omega|(simp only;omega)
     ·try simp only[cn]at h2
      have hjn:j=out.length:=by omega
      subst hjn
      refine AW.exit ?_
      simp only[thn,blk,if_true]
      refine hN3 _ ?_
      try clear hN3 N3
      refine AW.regionL envOk ?_
      simp-dsimp-implicitDefEqProofs (maxSteps:=800000) (disch:=omega) only[go_sem,undef,prs,prsP,w64,vls,vi]
      refine⟨(i+1,id5,K2),?_,fun _ _ h=>h,?_,?_⟩
      ·simp(disch:=omega) [wks,wkA,sl,w64,ints,rows,cubes,prs,prsP,w64,vls,vi]<;>omega
      ·exact⟨⟨by omega,by first|omega|(simp only;omega)|(dsimp only;omega),by first|omega|(simp only;omega)|(dsimp only;omega)⟩,by (try simp only[]);rw[hK2,hK,hcj1,List.take_length,List.append_assoc]⟩
      ·first|omega|(simp only;omega)
   ·try simp only[cn]at h1
    refine AW.exit ?_
    simp only[thn,blk,if_true]
    refine hN1 _ ?_
    try clear hN1 N1
    obtain rfl:i=bs.length:=by omega
    rw[List.take_length]at hK
    have hcl:=cjL_len (P:=pc os pw cj) (us:=out) (bs:=bs)
    have hcb:bs.length*out.length≤20*6:=Nat.mul_le_mul hbl hol
    have hKl:K.length≤1000:=by rw[hK,List.length_append,hcl];omega
    have hKT:∀x∈K,T (pc os pw cj) 0 x:=fun x hx=>by
     rw[hK]at hx
     rcases List.mem_append.1 hx with z|z
     ·exact hoT x z
     ·obtain⟨b,b1,a,a1,rfl⟩:=cjL_mem.1 z
      exact(cjE_T hv hc (hoT a a1) (hb b b1)).1
    have kn:=clo_cn hv hc hp hKT
    have knT:=clo_T hv hc hp hKT
    have kl:=kn.len
    have kg:=Cnl.gen hv hc (GL_sbg hv hc hp hKT) kn
    rw[kg]at kn
    have kc:(∀x,GL (pc os pw cj) out x→GL (pc os pw cj) K x)→out.length≤(cloU (pc os pw cj) K).length:=fun hs=>by
     rw[kg]at hs
     exact(Cnl.cmp hv hc (GL_sbg hv hc hp hoT) (GL_sbg hv hc hp knT) hoc kn hs).1
    have kc:=kc (fun x hx=>hx.le (GL_sbg hv hc hp hKT) (fun u hu2=>GL.of (by rw[hK];exact List.mem_append.2 (.inl hu2))))
    rw[hn0]at kl
    obtain⟨f',rfl⟩:∃f',f=f'+1:=⟨f-1,by omega⟩
    rw[stF,←hK]at hC
    obtain⟨nxt,hnx⟩:∃nxt,cloU (pc os pw cj) K=nxt:=⟨_,rfl⟩
    have hclo:=fun n9=>spec_l12Close_m os pw cj h hc K hKl hKT n9
    rw[hnx]at kn knT kl kc hC hclo
    refine AW.freeze 8 id3 K.length _ rfl (upd_same _ _ _) (List.length_map _) ?_
    simp-dsimp-implicitDefEqProofs (maxSteps:=800000) (disch:=omega) only[go_sem,undef]
    refine AW.sr envOk (fun N hN=> ?_)
    simp-dsimp-implicitDefEqProofs (maxSteps:=800000) (disch:=omega) only[go_sem,undef,prs,prsP,w64,vls,vi]
    refine(AC.frS (hclo _)).mono2 ?_
    rintro m9 H9 r9 hm9 ⟨id9,rfl,hi9,hj9,rfl⟩
    try simp-dsimp-implicitDefEqProofs (maxSteps:=800000) (disch:=omega) only[go_sem,undef,prs,prsP,w64,vls,vi]
    refine hN _ ?_
    try clear hN N
    refine AW.seq (fun N6 hN6=> ?_)
    refine AW.sr envOk (fun N hN=> ?_)
    simp-dsimp-implicitDefEqProofs (maxSteps:=800000) (disch:=omega) only[go_sem,undef,prs,prsP,w64,vls,vi]
    refine hN _ ?_
    try clear hN N
    refine AW.cond rfl (fun h3=> ?_) (fun h3=> ?_)
    ·try simp only[cn]at h3
     refine AW.sr envOk (fun N hN=> ?_)
     simp-dsimp-implicitDefEqProofs (maxSteps:=800000) (disch:=omega) only[go_sem,undef,prs,prsP,w64,vls,vi]
     refine hN _ ?_
     try clear hN N
     refine AW.ret ?_
     simp-dsimp-implicitDefEqProofs (maxSteps:=800000) (disch:=omega) only[go_sem,undef]
     rw[if_pos (by omega)]at hC
     rw[←hC]
     exact⟨_,le_noS,id9,rfl,by omega,by omega,rfl⟩
    ·try simp only[cn]at h3
     refine AW.skip ?_
     simp only[thn,blk]
     refine hN6 _ ?_
     try clear hN6 N6
     refine AW.freeze 11 id9 nxt.length _ rfl (upd_same _ _ _) (List.length_map _) ?_
     simp-dsimp-implicitDefEqProofs (maxSteps:=800000) (disch:=omega) only[go_sem,undef]
     refine AW.regionL envOk ?_
     simp-dsimp-implicitDefEqProofs (maxSteps:=800000) (disch:=omega) only[go_sem,undef,prs,prsP,w64,vls,vi]
     refine⟨(nxt,f'),?_,fun _ _ h=>(by cases h),?_,?_⟩
     ·simp(disch:=omega) [wks,wkA,sl,w64,ints,rows,cubes,prs,prsP,w64,vls,vi]<;>omega
     ·exact⟨⟨by first|omega|(simp only;omega)|(dsimp only;omega),by first|omega|(simp only;omega)|(dsimp only;omega),by first|omega|(simp only;omega)|(dsimp only;omega)⟩,knT,kn,by dsimp only;rw[if_neg (by omega)]at hC;exact hC⟩
     ·first|omega|(simp only;omega)
set_option maxRecDepth 20000 in
set_option maxHeartbeats 1000000 in
theorem spec_l13Comm_n (h:presOk os pw cj) (hc:Con (pc os pw cj) 0) (us vs:List V) (hl:us.length≤6) (hwl:vs.length≤6) (hu:∀x∈us,T (pc os pw cj) 0 x) (hw:∀x∈vs,T (pc os pw cj) 0 x) (nx:Nat):AC Tryz.prog 114 nx noH [prs os pw cj,vls os.length us,vls os.length vs] (fun nx' H' r=>OwS os.length nx nx' noH H' r (cmL (pc os pw cj) us vs)):=by
 have hn6:=h.1.1
 have hv:=h.val
 have hpr:=h.2.1
 have hp:∀d,d<(pc os pw cj).n→pr4 ((pc os pw cj).o d):=fun d hd=>hpr d hd
 have hn0:(pc os pw cj).n=os.length:=rfl
 refine AC.introx envOk Tryz.func114 rfl (by kernel_rfl) Tryz.ntmps114 Tryz.results114 (fun hfr=> ?_)
 refine AW.sr envOk (fun N hN=> ?_)
 simp-dsimp-implicitDefEqProofs (maxSteps:=800000) (disch:=omega) only[go_sem,undef,prs,prsP,w64,vls,vi]
 refine hN _ ?_
 try clear hN N
 refine AW.freezeQ 3 nx _ rfl (upd_same _ _ _) ?_
 simp-dsimp-implicitDefEqProofs (maxSteps:=800000) (disch:=omega) only[go_sem,undef]
 refine AW.sr envOk (fun N hN=> ?_)
 simp-dsimp-implicitDefEqProofs (maxSteps:=800000) (disch:=omega) only[go_sem,undef,prs,prsP,w64,vls,vi]
 refine hN _ ?_
 try clear hN N
 refine AW.seq (fun N1 hN1=> ?_)
 refine AW.sr envOk (fun N hN=> ?_)
 simp-dsimp-implicitDefEqProofs (maxSteps:=800000) (disch:=omega) only[go_sem,undef,prs,prsP,w64,vls,vi]
 refine hN _ ?_
 try clear hN N
 refine AW.block ?_
 refine AW.loopN (α:=Nat×Nat×List V) (fun x=>sl 45 [(1,vls os.length us),(2,vls os.length vs),(3,prsP os pw cj),(7,.h x.2.1 0 x.2.2.length),(8,.i .i64 x.1)]) (fun x=>upd noH x.2.1 (some (x.2.2.map (vi os.length)))) (fun x m=>(x.1≤us.length∧nx≤x.2.1∧x.2.1<m)∧x.2.2=coL (pc os pw cj) (us.take x.1) vs) (fun x=>us.length-x.1) ((0,nx+2,[])) ?_ ?_ (by intro d cs hd;simp only[upd,noH,List.map_nil]at hd ⊢;grind) ?_
 ·exact⟨⟨by omega,by first|omega|(simp only;omega)|(dsimp only;omega),by first|omega|(simp only;omega)|(dsimp only;omega)⟩,by simp[coL]⟩
 ·simp(disch:=omega) [wks,wkA,sl,prsP,ints,rows,cubes,vls]<;>omega
 ·skip
  rintro⟨i,id3,K⟩ m2 ⟨⟨hi,hid3,hid4⟩,hK⟩
  dsimp only at hi hid3 hid4 hK ⊢
  simp only[prsP,vls]
  simp-dsimp-implicitDefEqProofs (maxSteps:=800000) (disch:=omega) only[go_sem,undef]
  refine AW.seq (fun N2 hN2=> ?_)
  refine AW.sr envOk (fun N hN=> ?_)
  simp-dsimp-implicitDefEqProofs (maxSteps:=800000) (disch:=omega) only[go_sem,undef,prs,prsP,w64,vls,vi]
  refine hN _ ?_
  try clear hN N
  refine AW.cond rfl (fun h1=> ?_) (fun h1=> ?_)
  ·try simp only[cn]at h1
   obtain⟨b,hbe⟩:∃b,us.getD i z0=b:=⟨_,rfl⟩
   have hbT:T (pc os pw cj) 0 b:=by rw[←hbe];exact hu _ (mem_getD (by omega))
   have hcj1:=coL_step (P:=pc os pw cj) (vs:=vs) (show i<us.length by omega) hbe
   have hcl:=coL_len (P:=pc os pw cj) (us:=us.take i) (vs:=vs)
   have hcb:(us.take i).length*vs.length≤6*6:=Nat.mul_le_mul (by rw[List.length_take];omega) hwl
   refine AW.skip ?_
   simp only[thn,blk]
   refine hN2 _ ?_
   try clear hN2 N2
   refine AW.seq (fun N3 hN3=> ?_)
   refine AW.block ?_
   refine AW.sr envOk (fun N hN=> ?_)
   simp-dsimp-implicitDefEqProofs (maxSteps:=800000) (disch:=omega) only[go_sem,undef,prs,prsP,w64,vls,vi]
   refine hN _ ?_
   try clear hN N
   refine AW.block ?_
   refine AW.loopN (α:=Nat×Nat×List V) (fun x=>sl 45 [(1,vls os.length us),(2,vls os.length vs),(3,prsP os pw cj),(7,.h x.2.1 0 x.2.2.length),(8,.i .i64 i),(9,.i .i64 x.1)]) (fun x=>upd noH x.2.1 (some (x.2.2.map (vi os.length)))) (fun x m=>(x.1≤vs.length∧nx≤x.2.1∧x.2.1<m)∧x.2.2=K++(vs.take x.1).map fun y=>cmI (pc os pw cj) b y) (fun x=>vs.length-x.1) ((0,id3,K)) ?_ ?_ (fun _ _ h=>h) ?_
   ·exact⟨⟨by omega,by first|omega|(simp only;omega)|(dsimp only;omega),by first|omega|(simp only;omega)|(dsimp only;omega)⟩,by simp⟩
   ·simp(disch:=omega) [wks,wkA,sl,prsP,ints,rows,cubes,vls]<;>omega
   ·skip
    rintro⟨j,id5,K2⟩ m3 ⟨⟨hj,hid5,hid6⟩,hK2⟩
    dsimp only at hj hid5 hid6 hK2 ⊢
    simp only[prsP,vls]
    simp-dsimp-implicitDefEqProofs (maxSteps:=800000) (disch:=omega) only[go_sem,undef]
    have hKl:K2.length≤1000:=by
     rw[hK2,List.length_append,List.length_map,List.length_take,hK,hcl];omega
    refine AW.seq (fun N4 hN4=> ?_)
    refine AW.sr envOk (fun N hN=> ?_)
    simp-dsimp-implicitDefEqProofs (maxSteps:=800000) (disch:=omega) only[go_sem,undef,prs,prsP,w64,vls,vi]
    refine hN _ ?_
    try clear hN N
    refine AW.cond rfl (fun h2=> ?_) (fun h2=> ?_)
    ·try simp only[cn]at h2
     have hms:=map_step (f:=fun y=>cmI (pc os pw cj) b y) (show j<vs.length by omega) rfl
     have hyT:=hw _ (mem_getD (show j<vs.length by omega))
     have hco:=spec_l10Comm_ok os pw cj h hc b _ hbT hyT
     rw[cmV_cmI hv hc hbT hyT]at hco
     refine AW.skip ?_
     simp only[thn,blk]
     refine hN4 _ ?_
     try clear hN4 N4
     refine AW.seq (fun N5 hN5=> ?_)
     refine AW.block ?_
     refine AW.drawL envOk (by kernel_rfl) 12 (by kernel_rfl) ?_
     simp-dsimp-implicitDefEqProofs (maxSteps:=800000) (disch:=omega) only[hr_nil,hr_one,hr_if,List.take_succ_cons,List.take_zero,List.drop_succ_cons,List.drop_zero,List.take_nil,List.drop_nil,go_sem,undef,prs,prsP,w64,vls,vi,hbe]
     refine⟨_,.of (hco),?_⟩
     try simp-dsimp-implicitDefEqProofs (maxSteps:=800000) (disch:=omega) only[go_sem,undef,prs,prsP,w64,vls,vi]
     refine hN5 _ ?_
     try clear hN5 N5
     refine AW.regionL envOk ?_
     simp-dsimp-implicitDefEqProofs (maxSteps:=800000) (disch:=omega) only[go_sem,undef,prs,prsP,w64,vls,vi]
     refine⟨(j+1,m3+4+12,K2++[cmI (pc os pw cj) b (vs.getD j z0)]),?_,by intro d cs hd;simp only[upd,noH,tk_map,List.map_append,List.map_cons,List.map_nil,vi]at hd ⊢;grind,?_,?_⟩
     ·simp(disch:=omega) [wks,wkA,sl,w64,ints,rows,cubes,prs,prsP,w64,vls,vi]<;>omega
     ·exact⟨⟨by omega,by first|omega|(simp only;omega)|(dsimp only;omega),by first|omega|(simp only;omega)|(dsimp only;omega)⟩,by (try simp only[]);rw[hms,hK2,List.append_assoc]⟩
     ·first|omega|(simp only;omega)
    ·try simp only[cn]at h2
     have hjn:j=vs.length:=by omega
     subst hjn
     refine AW.exit ?_
     simp only[thn,blk,if_true]
     refine hN3 _ ?_
     try clear hN3 N3
     refine AW.regionL envOk ?_
     simp-dsimp-implicitDefEqProofs (maxSteps:=800000) (disch:=omega) only[go_sem,undef,prs,prsP,w64,vls,vi]
     refine⟨(i+1,id5,K2),?_,fun _ _ h=>h,?_,?_⟩
     ·simp(disch:=omega) [wks,wkA,sl,w64,ints,rows,cubes,prs,prsP,w64,vls,vi]<;>omega
     ·exact⟨⟨by omega,by first|omega|(simp only;omega)|(dsimp only;omega),by first|omega|(simp only;omega)|(dsimp only;omega)⟩,by (try simp only[]);rw[hK2,hK,hcj1,List.take_length]⟩
     ·first|omega|(simp only;omega)
  ·try simp only[cn]at h1
   refine AW.exit ?_
   simp only[thn,blk,if_true]
   refine hN1 _ ?_
   try clear hN1 N1
   obtain rfl:i=us.length:=by omega
   rw[List.take_length]at hK
   have hcl:=coL_len (P:=pc os pw cj) (us:=us) (vs:=vs)
   have hcb:us.length*vs.length≤6*6:=Nat.mul_le_mul hl hwl
   have hKl:K.length≤1000:=by rw[hK,hcl];omega
   have hKT:∀x∈K,T (pc os pw cj) 0 x:=by rw[hK];exact coL_T hv hc hu hw
   have kn:=clo_cn hv hc hp hKT
   have knT:=clo_T hv hc hp hKT
   have kl:=kn.len
   rw[Cnl.gen hv hc (GL_sbg hv hc hp hKT) kn]at kn
   rw[hn0]at kl
   have hclo:=spec_l12Close_c os pw cj h hc K hKl hKT
   have hsta:=fun n9=>spec_l13Stable_n os pw cj h hc (cloU (pc os pw cj) K) (us++vs) (by omega) (by rw[List.length_append];omega) knT (apL_T hu hw) kn n9
   have hfin:stF (pc os pw cj) (us++vs) (os.length+1) (cloU (pc os pw cj) K)=cmL (pc os pw cj) us vs:=by rw[hK];rfl
   rw[hfin]at hsta
   refine AW.freeze 7 id3 K.length _ rfl (upd_same _ _ _) (List.length_map _) ?_
   simp-dsimp-implicitDefEqProofs (maxSteps:=800000) (disch:=omega) only[go_sem,undef]
   refine AW.seq (fun N hN=> ?_)
   refine AW.drawF envOk (by kernel_rfl) [true,true,true,false,true,false,true,false,false,false] (by kernel_rfl) ?_
   simp-dsimp-implicitDefEqProofs (maxSteps:=800000) (disch:=omega) only[go_sem,undef,prs,prsP,w64,vls,vi]
   refine AC.pure (.of (hclo)) ?_
   try simp-dsimp-implicitDefEqProofs (maxSteps:=800000) (disch:=omega) only[go_sem,undef,prs,prsP,w64,vls,vi]
   refine AC.mono (AC.frame (spec_l01Own2_n os (by omega) us (by omega) _)) ?_
   rintro m1 H1 r1 ⟨H0,⟨id,rfl,hid1,hid2,hHid⟩,hlow,hhigh⟩
   have hH1:=(hhigh id hid1).trans hHid
   clear hHid hhigh hlow
   try simp-dsimp-implicitDefEqProofs (maxSteps:=800000) (disch:=omega) only[go_sem,undef,prs,prsP,w64,vls,vi,hH1,one_vlT,tk_map,List.length_map]
   refine AC.fz (ts:=[prs os pw cj,vls os.length (cloU (pc os pw cj) K),vls os.length (us++vs)]) (FzH.del (id:=m2+4+7)) ?_ ((AC.frS (hsta _)).mono2 ?_)
   ·exact⟨.refl _,.refl _,Fz.vls (upd_same _ _ _) (by simp) (by simp),trivial⟩
   rintro m9 H9 r9 hm9 ⟨id9,rfl,hi9,hj9,rfl⟩
   try simp-dsimp-implicitDefEqProofs (maxSteps:=800000) (disch:=omega) only[go_sem,undef,prs,prsP,w64,vls,vi]
   refine hN _ ?_
   try clear hN N
   refine AW.ret ?_
   simp-dsimp-implicitDefEqProofs (maxSteps:=800000) (disch:=omega) only[go_sem,undef]
   exact⟨_,le_noS,id9,rfl,by omega,by omega,rfl⟩
theorem exK_z {P:Pc} {q:Int} {f:Nat} {us:List V} (h:(exN P q us).length=us.length):exK P q f us=[us]:=by
  cases f with
  |zero=>rfl
  |succ f=>rw[exK,if_pos h]
theorem exK_len {P:Pc} {q:Int}:∀f us,1≤(exK P q f us).length∧(exK P q f us).length≤f+1:=by
  intro f
  induction f with
  |zero=>intro us;exact⟨Nat.le_refl _,Nat.le_refl _⟩
  | succ f ih=>
    intro us
    rw[exK]
    split
    · exact⟨by simp,by simp⟩
    · have:=ih (exN P q us)
      rw[List.length_cons]
      omega
set_option maxRecDepth 20000 in
set_option maxHeartbeats 1000000 in
theorem spec_l17Next_ok (h:presOk os pw cj) (hc:Con (pc os pw cj) 0) (us:List V) (hl:us.length≤6) (hu:∀x∈us,T (pc os pw cj) 0 x) (q:Int) (hq:0≤q∧q≤1000):ACp Tryz.prog 70 [prs os pw cj,vls os.length us,.i .i64 q] (vls os.length (exN (pc os pw cj) q us)):=by
 have hn6:=h.1.1
 have hv:=h.val
 have hpr:=h.2.1
 have hp:∀d,d<(pc os pw cj).n→pr4 ((pc os pw cj).o d):=fun d hd=>hpr d hd
 have hn0:(pc os pw cj).n=os.length:=rfl
 have hul:=unL_len (n:=os.length)
 have hU:∀x∈unL os.length,T (pc os pw cj) 0 x:=unL_T hv
 have cn1:=cmL_cn hv hc hp hu hU
 have hCl:=cn1.len
 rw[hn0]at hCl
 have hcomm:=fun n9=>spec_l13Comm_n os pw cj h hc us (unL os.length) hl (by omega) hu hU n9
 have hGT:=exG_T hv hc hp hu (q:=q)
 have hGe:exG (pc os pw cj) q us=cmL (pc os pw cj) us (unL os.length)++us.map fun x=>pwV (pc os pw cj) x q:=rfl
 have hGl:(exG (pc os pw cj) q us).length=(cmL (pc os pw cj) us (unL os.length)).length+us.length:=by rw[hGe,List.length_append,List.length_map]
 have hclo:=spec_l12Close_c os pw cj h hc (exG (pc os pw cj) q us) (by omega) hGT
 rw[show cloU (pc os pw cj) (exG (pc os pw cj) q us)=exN (pc os pw cj) q us from rfl]at hclo
 obtain⟨C,hC⟩:∃C,cmL (pc os pw cj) us (unL os.length)=C:=⟨_,rfl⟩
 rw[hC]at hCl hcomm hGe hGl
 refine ACp.intro' envOk Tryz.func70 rfl (by kernel_rfl) Tryz.ntmps70 Tryz.results70 (vls_nr _ _) (fun nx=> ?_)
 refine AW.sr envOk (fun N hN=> ?_)
 simp-dsimp-implicitDefEqProofs (maxSteps:=800000) (disch:=omega) only[go_sem,undef,prs,prsP,w64,vls,vi,one_vlT,tk_map,List.length_map]
 refine hN _ ?_
 try clear hN N
 refine AW.freezeQ 3 nx _ rfl (upd_same _ _ _) ?_
 simp-dsimp-implicitDefEqProofs (maxSteps:=800000) (disch:=omega) only[go_sem,undef]
 refine AW.seq (fun N hN=> ?_)
 refine AW.drawF envOk (by kernel_rfl) [true,true,true,false,false,false] (by kernel_rfl) ?_
 simp-dsimp-implicitDefEqProofs (maxSteps:=800000) (disch:=omega) only[go_sem,undef,prs,prsP,w64,vls,vi,one_vlT,tk_map,List.length_map]
 refine AC.pure (.of (spec_l12Whole_v os pw cj (by omega))) ?_
 try simp-dsimp-implicitDefEqProofs (maxSteps:=800000) (disch:=omega) only[go_sem,undef,prs,prsP,w64,vls,vi,one_vlT,tk_map,List.length_map]
 refine(AC.frS (hcomm _)).mono2 ?_
 rintro m9 H9 r9 hm9 ⟨id9,rfl,hi9,hj9,rfl⟩
 try simp-dsimp-implicitDefEqProofs (maxSteps:=800000) (disch:=omega) only[go_sem,undef,prs,prsP,w64,vls,vi,one_vlT,tk_map,List.length_map]
 refine hN _ ?_
 try clear hN N
 refine AW.seq (fun N1 hN1=> ?_)
 refine AW.sr envOk (fun N hN=> ?_)
 simp-dsimp-implicitDefEqProofs (maxSteps:=800000) (disch:=omega) only[go_sem,undef,prs,prsP,w64,vls,vi,one_vlT,tk_map,List.length_map]
 refine hN _ ?_
 try clear hN N
 refine AW.block ?_
 refine AW.loopN (α:=Nat×Nat) (fun x=>sl 33 [(1,vls os.length us),(2,.i .i64 q),(3,prsP os pw cj),(7,.h x.2 0 (C.length+x.1)),(8,.i .i64 x.1)]) (fun x=>upd noH x.2 (some ((C++(us.take x.1).map fun x=>pwV (pc os pw cj) x q).map (vi os.length)))) (fun x m=>x.1≤us.length∧nx≤x.2∧x.2<m) (fun x=>us.length-x.1) ((0,id9)) ?_ ?_ (by simp only[List.take_zero,List.map_nil,List.append_nil];exact le_noS) ?_
 ·exact⟨by simp,by first|omega|(simp only;omega)|(dsimp only;omega),by first|omega|(simp only;omega)|(dsimp only;omega)⟩
 ·simp(disch:=omega) [wks,wkA,sl,prsP,ints,rows,cubes,vls]
 ·skip
  rintro⟨k,id⟩ m ⟨hk,hid,hm⟩
  dsimp only at hk hid hm ⊢
  have htl:(us.take k).length=k:=by rw[List.length_take];omega
  have hclen:(C++(us.take k).map fun x=>pwV (pc os pw cj) x q).length=C.length+k:=by rw[List.length_append,List.length_map,htl]
  simp only[prsP]
  simp-dsimp-implicitDefEqProofs (maxSteps:=800000) (disch:=omega) only[go_sem,undef]
  refine AW.seq (fun N2 hN2=> ?_)
  refine AW.sr envOk (fun N hN=> ?_)
  simp-dsimp-implicitDefEqProofs (maxSteps:=800000) (disch:=omega) only[go_sem,undef,prs,prsP,w64,vls,vi,one_vlT,tk_map,List.length_map]
  refine hN _ ?_
  try clear hN N
  refine AW.cond rfl (fun h1=> ?_) (fun h1=> ?_)
  ·try simp only[cn]at h1
   have hms:=map_step (f:=fun x=>pwV (pc os pw cj) x q) (show k<us.length by omega) rfl
   have hxT:=hu _ (mem_getD (show k<us.length by omega))
   refine AW.skip ?_
   simp only[thn,blk]
   refine hN2 _ ?_
   try clear hN2 N2
   refine AW.seq (fun N3 hN3=> ?_)
   refine AW.block ?_
   refine AW.drawL envOk (by kernel_rfl) 9 (by kernel_rfl) ?_
   simp-dsimp-implicitDefEqProofs (maxSteps:=800000) (disch:=omega) only[hr_nil,hr_one,hr_if,List.take_succ_cons,List.take_zero,List.drop_succ_cons,List.drop_zero,List.take_nil,List.drop_nil,go_sem,undef,prs,prsP,w64,vls,vi,one_vlT,tk_map,List.length_map]
   refine⟨_,.of (spec_l10Pow_ok os pw cj h hc _ hxT q (by omega)),?_⟩
   try simp-dsimp-implicitDefEqProofs (maxSteps:=800000) (disch:=omega) only[go_sem,undef,prs,prsP,w64,vls,vi,one_vlT,tk_map,List.length_map]
   refine hN3 _ ?_
   try clear hN3 N3
   refine AW.regionL envOk ?_
   simp-dsimp-implicitDefEqProofs (maxSteps:=800000) (disch:=omega) only[go_sem,undef,prs,prsP,w64,vls,vi,one_vlT,tk_map,List.length_map]
   refine⟨(k+1,m+4+9),?_,by intro d cs hd;simp only[hms,upd,noH,List.map_append,List.map_cons,List.map_nil,vi]at hd ⊢;grind,?_,?_⟩
   ·simp(disch:=omega) [wks,wkA,sl,w64,ints,rows,cubes,prs,prsP,w64,vls,vi,one_vlT,tk_map,List.length_map]<;>omega
   ·exact⟨by first|omega|(simp only;omega)|(dsimp only;omega),by first|omega|(simp only;omega)|(dsimp only;omega),by first|omega|(simp only;omega)|(dsimp only;omega)⟩
   ·first|omega|(simp only;omega)
  ·try simp only[cn]at h1
   refine AW.exit ?_
   simp only[thn,blk,if_true]
   refine hN1 _ ?_
   try clear hN1 N1
   have hke:k=us.length:=by omega
   refine AW.freeze 7 id (C.length+k) _ rfl (upd_same _ _ _) (by rw[List.length_map,hclen]) ?_
   rw[hke,List.take_length,←hGe,←hGl]
   simp-dsimp-implicitDefEqProofs (maxSteps:=800000) (disch:=omega) only[go_sem,undef]
   refine AW.sr envOk (fun N hN=> ?_)
   simp-dsimp-implicitDefEqProofs (maxSteps:=800000) (disch:=omega) only[go_sem,undef,prs,prsP,w64,vls,vi,one_vlT,tk_map,List.length_map]
   refine AC.pure (.of (hclo)) ?_
   try simp-dsimp-implicitDefEqProofs (maxSteps:=800000) (disch:=omega) only[go_sem,undef,prs,prsP,w64,vls,vi,one_vlT,tk_map,List.length_map]
   refine hN _ ?_
   try clear hN N
   refine AW.ret ?_
   simp-dsimp-implicitDefEqProofs (maxSteps:=800000) (disch:=omega) only[go_sem,undef]
   rfl
end
end Go.Proofs.YtnlfbimjcabgiaaGreat
