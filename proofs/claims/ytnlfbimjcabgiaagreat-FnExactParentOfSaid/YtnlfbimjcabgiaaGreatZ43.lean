import Derived.Test.YtnlfbimjcabgiaaGreatZ42
set_option linter.unusedVariables false
set_option linter.unusedSimpArgs false
namespace Go.Proofs.YtnlfbimjcabgiaaGreat
open Nat (reduceAdd reduceSub reduceGT reduceEqDiff reduceMul)
theorem gd_dropI {O:List Int} {a k:Nat} (h:a+k<O.length):(List.drop a (O.map (AV.i .i64))).getD k .j= .i .i64 (O.getD (a+k) 0):=by
  rw[List.getD_eq_getElem?_getD,List.getElem?_drop,←List.getD_eq_getElem?_getD,gd_i h]
def QsO (a m c:Nat) (H:HP) (x y z:Nat) (xs ys zs:List AV) (k:Nat) (oL pL cL:List AV):Prop:=
  (k=0∧H c=some [.nl,.nl,.nl])∨(0<k∧H c=some [.h x 0 k,.h y 0 k,.h z 0 k]∧QsR a m H x y z xs ys zs (oL.take k) (pL.take k) (cL.take k)∧xs.length=k∧ys.length=k∧zs.length=k)
theorem mk4 {N:St→Prop} {C:Nat→HP→AV→List Nat→Prop} {S:Nat→HP→AV→St} {G:Prop} (h1:(∀m H r ids,C m H r ids→N (S m H r))→G) (h2:∀m H r ids,C m H r ids→N (S m H r)):G:=h1 h2
theorem tk1 {L:List AV} {k:Nat} {v:AV} (h:k<L.length) (hv:L.getD k .j=v):L.take (k+1)=L.take k++[v]:=by
  rw[List.take_add_one,←hv]
  simp[h]
section
variable (os:List Int) (pw:List (List Int)) (cj:List (List (List Int)))
set_option maxRecDepth 20000 in
set_option maxHeartbeats 4000000 in
theorem impl_quotientPresentation_ok (h:presOk os pw cj) (hc:Con (pc os pw cj) 0) {S:V→Prop} (us:List V) (hcn:Cnl (pc os pw cj) S us):ACo Tryz.prog 42 [prsP os pw cj,vls os.length us] (prs (qoO os us) (qoP (pc os pw cj) us) (qoC (pc os pw cj) us)):=by
 have hn6:=h.1.1
 have hv:=h.val
 have hn0:(pc os pw cj).n=os.length:=rfl
 have hln:=hcn.len
 rw[hn0]at hln
 have hld:∀k,k<us.length→ldV os.length (us.getD k z0)<os.length:=fun k hk=>(hcn.at (by rw[List.getD_eq_getElem?_getD,List.getElem?_eq_getElem hk];exact List.getElem_mem _)).1
 have hfi:=frI_len (n:=os.length) (u:=us)
 have hfl:=frU_len (n:=os.length) (u:=us) os.length
 have hfg:∀i,i<(frU os.length us os.length).length→(frI os.length us).getD i 0=((frU os.length us os.length).getD i 0:Int)∧(frU os.length us os.length).getD i 0<os.length:=fun i hi=>⟨frI_get hi,frU_lt hi⟩
 obtain⟨fr,hfr0⟩:∃f,frU os.length us os.length=f:=⟨_,rfl⟩
 rw[hfr0]at hfi hfl hfg
 have hoL:((qoO os us).map (AV.i .i64)).length=fr.length:=by rw[List.length_map,qoO,List.length_map,hfr0]
 have hpL:((qoP (pc os pw cj) us).map ints).length=fr.length:=by rw[List.length_map,qoP,List.length_map,hn0,hfr0]
 have hcL:((qoC (pc os pw cj) us).map rows).length=fr.length:=by rw[List.length_map,qoC,List.length_map,List.length_range,hn0,hfr0]
 have hoG:∀k,k<fr.length→((qoO os us).map (AV.i .i64)).getD k .j= .i .i64 (os.getD (fr.getD k 0) 0):=fun k hk=>by simp[qoO,hfr0,hk]
 have hpG:∀k,k<fr.length→((qoP (pc os pw cj) us).map ints).getD k .j=ints (qoPr (pc os pw cj) us (fr.getD k 0)):=fun k hk=>by simp[qoP,hn0,hfr0,hk]
 have hcG:∀k,k<fr.length→((qoC (pc os pw cj) us).map rows).getD k .j=rows (qoCl (pc os pw cj) us k):=fun k hk=>by simp[qoC,hn0,hfr0,hk]
 have hcl:∀k,(qoCl (pc os pw cj) us k).length=fr.length-(k+1):=fun k=>by rw[qoCl,List.length_map,List.length_drop,hn0,hfr0]
 have hce:∀k j,k+1+j<fr.length→((qoCl (pc os pw cj) us k).map ints).getD j .j=ints (qoCr (pc os pw cj) us (fr.getD k 0) (fr.getD (k+1+j) 0)):=fun k j hj=>by
  have h1:j<fr.length-(k+1):=by omega
  simp[qoCl,hn0,hfr0,h1,hj,List.getElem?_drop]
 intro nx
 refine AC.intro' envOk Tryz.func42 rfl (by kernel_rfl) Tryz.ntmps42 Tryz.results42 ?_
 refine AW.sr envOk (fun N hN=> ?_)
 simp-dsimp-implicitDefEqProofs (maxSteps:=800000) (disch:=omega) only[go_sem,undef,prsP,vls,w64,vi]
 refine hN _ ?_
 try clear hN N
 refine AW.sr envOk (fun N hN=> ?_)
 simp-dsimp-implicitDefEqProofs (maxSteps:=800000) (disch:=omega) only[go_sem,undef,prsP,vls,w64,vi]
 refine hN _ ?_
 try clear hN N
 refine AW.sr envOk (fun N hN=> ?_)
 simp-dsimp-implicitDefEqProofs (maxSteps:=800000) (disch:=omega) only[go_sem,undef,prsP,vls,w64,vi]
 refine hN _ ?_
 try clear hN N
 refine AW.sr envOk (fun N hN=> ?_)
 simp-dsimp-implicitDefEqProofs (maxSteps:=800000) (disch:=omega) only[go_sem,undef,prsP,vls,w64,vi]
 refine AC.pure (.of (impl_otherIndices_v os pw cj hn6 us (by omega) hld)) ?_
 try simp-dsimp-implicitDefEqProofs (maxSteps:=800000) (disch:=omega) only[go_sem,undef,prsP,vls,w64,vi]
 refine hN _ ?_
 try clear hN N
 refine AW.seq (fun N1 hN1=> ?_)
 refine AW.sr envOk (fun N hN=> ?_)
 simp-dsimp-implicitDefEqProofs (maxSteps:=800000) (disch:=omega) only[go_sem,undef,prsP,vls,w64,vi]
 refine hN _ ?_
 try clear hN N
 refine AW.block ?_
 refine AW.nameH (fun G0 hG0=> ?_)
 dsimp only at hG0
 have hQ0:G0 (nx+2)=some [.nl,.nl,.nl]∧G0 nx=some [.nl,.nl,.nl]:=by
  constructor<;>(rw[←hG0];simp(disch:=omega) only[upd_ne,upd_same])
 refine AW.loopN (α:=Nat×HP×(Nat×Nat×Nat)×(List AV×List AV×List AV)) (fun x=>sl 93 [(0,prsP os pw cj),(1,vls os.length us),(4,.q nx 0),(5,.q (nx+2) 0),(6,.i .i64 os.length),(7,ints (frI os.length us)),(23,ints (frI os.length us)),(24,.i .i64 fr.length),(25,.i .i64 x.1)]) (fun x=>x.2.1) (fun x m=>(x.1≤fr.length∧nx+3≤m)∧x.2.1 nx=some [.nl,.nl,.nl]∧QsO (nx+3) m (nx+2) x.2.1 x.2.2.1.1 x.2.2.1.2.1 x.2.2.1.2.2 x.2.2.2.1 x.2.2.2.2.1 x.2.2.2.2.2 x.1 ((qoO os us).map (AV.i .i64)) ((qoP (pc os pw cj) us).map ints) ((qoC (pc os pw cj) us).map rows)) (fun x=>fr.length-x.1) ((0,G0,(0,0,0),([],[],[]))) ?_ ?_ (fun _ _ h=>h) ?_
 ·exact⟨⟨by simp,by first|omega|(simp only;omega)|(dsimp only;omega)⟩,hQ0.2,.inl ⟨rfl,hQ0.1⟩⟩
 ·simp(disch:=omega) [wks,wkA,sl,prsP,ints,rows,cubes,vls]<;>omega
 ·skip
  rintro⟨k,H,⟨x,y,z⟩,⟨xs,ys,zs⟩⟩ m ⟨⟨hk,hm⟩,hc4,hQ⟩
  dsimp only at hk hm hc4 hQ
  rcases hQ with ⟨hk0,hcF⟩|⟨hk0,hcF,hR,hl1,hl2,hl3⟩
  ·skip
   simp-dsimp-implicitDefEqProofs (maxSteps:=800000) (disch:=omega) only[go_sem,undef]
   try dsimp only
   have hx:=hcF
   have hl1:=hcF
   have hl3:=hcF
   refine AW.sr envOk (fun N hN=> ?_)
   simp-dsimp-implicitDefEqProofs (maxSteps:=800000) (disch:=omega) only[go_sem,undef,prsP,vls,w64,vi]
   refine hN _ ?_
   try clear hN N
   refine AW.seq (fun N2 hN2=> ?_)
   refine AW.cond rfl (fun h1=> ?_) (fun h1=> ?_)
   ·try simp only[cn]at h1
    have hkl:k<fr.length:=by omega
    obtain⟨d,hd⟩:∃d,fr.getD k 0=d:=⟨_,rfl⟩
    obtain⟨hfk,hdn⟩:=hfg k hkl
    rw[hd]at hfk hdn
    have hpb:=pr4_bd (h.2.1 d hdn)
    have hdT:T (pc os pw cj) 0 (un d):=(unV_T hv hdn).1.mono hv (Nat.zero_le d)
    have hpw:=impl_power_i h 0 hc (un d) hdT (os.getD d 0) (by omega) (by omega)
    rw[pwV_rep (by omega)]at hpw
    have hpj:ACo Tryz.prog 84 [prsP os pw cj,vls os.length us,vi os.length (pwV (pc os pw cj) (un d) (os.getD d 0))] (ints (qoPr (pc os pw cj) us d)):=impl_project_ok os pw cj h hc us hcn _ (pwV_T hv hc hdT _)
    refine AW.skip ?_
    simp only[thn,blk]
    refine hN2 _ ?_
    try clear hN2 N2
    refine AW.seq (fun N3 hN3=> ?_)
    refine AW.block ?_
    refine AW.sr envOk (fun N hN=> ?_)
    simp-dsimp-implicitDefEqProofs (maxSteps:=800000) (disch:=omega) only[go_sem,undef,prsP,vls,w64,vi,ints,gd_i,hfk]
    refine hN _ ?_
    try clear hN N
    refine AW.sr envOk (fun N hN=> ?_)
    simp-dsimp-implicitDefEqProofs (maxSteps:=800000) (disch:=omega) only[go_sem,undef,prsP,vls,w64,vi]
    refine AC.pure (.of (impl_unitVector_v os.length d (by omega) (by omega))) ?_
    try simp-dsimp-implicitDefEqProofs (maxSteps:=800000) (disch:=omega) only[go_sem,undef,prsP,vls,w64,vi]
    refine hN _ ?_
    try clear hN N
    refine AW.seq (fun N hN=> ?_)
    refine AW.drawL envOk (by kernel_rfl) 10 (by kernel_rfl) ?_
    simp-dsimp-implicitDefEqProofs (maxSteps:=800000) (disch:=omega) only[hr_nil,hr_one,hr_if,List.take_succ_cons,List.take_zero,List.drop_succ_cons,List.drop_zero,List.take_nil,List.drop_nil,go_sem,undef,prsP,vls,w64,vi,hcF,ints,gd_i,hx,hl1,List.take_length]
    refine hN _ ?_
    try clear hN N
    refine AW.seq (fun N hN=> ?_)
    apply mk4 (N:=N)
    ·intro key
     refine AW.drawT envOk (by kernel_rfl) [true,false,true,true,true,true,true,true,true,true,true,true,true,false,false,false,false,true,false] (.br 1 (.br 13 (.br 14 (.br 15 (.br 16 (.br 18 .nil .nil) .nil) .nil) .nil) .nil) (.br 13 (.br 1 (.br 14 (.br 15 (.br 16 (.br 18 .nil .nil) .nil) .nil) .nil) (.br 14 (.br 1 (.br 15 (.br 16 (.br 18 .nil .nil) .nil) .nil) (.br 15 (.br 1 (.br 16 (.br 18 .nil .nil) .nil) .nil) .nil)) .nil)) .nil)) (by kernel_rfl) ?_
     simp-dsimp-implicitDefEqProofs (maxSteps:=800000) (disch:=omega) only[go_sem,undef,prsP,vls,w64,vi,ints,gd_i]
     refine⟨AC.pure (.of (hpw)) ?_,AC.pure (.of (hpw)) ?_⟩
     ·skip
      try simp-dsimp-implicitDefEqProofs (maxSteps:=800000) (disch:=omega) only[go_sem,undef,prsP,vls,w64,vi]
      refine AC.own hpj (.cons (.refl _) (.cons (.refl _) (.cons (.refl _) .nil))) ?_
      intro m1 H1 r1 ids1 hm1 hH1 hown1
      obtain⟨q1,q2,q3⟩:=hown1.1.slice
      have hr2:=one_list q2
      have hc1:H1 (nx+2)=some [.h (m+1+5+4+10) 0 1,.nl,.nl]:=(hH1 _ (by omega)).trans (by simp(disch:=omega) only[upd_ne,upd_same])
      try simp-dsimp-implicitDefEqProofs (maxSteps:=800000) (disch:=omega) only[go_sem,undef,prsP,vls,w64,vi,q1,q2,q3,hr2,hc1]
      exact key m1 H1 r1 ids1 (And.intro hm1 (And.intro hH1 hown1))
     ·skip
      try simp-dsimp-implicitDefEqProofs (maxSteps:=800000) (disch:=omega) only[go_sem,undef,prsP,vls,w64,vi]
      refine⟨AC.own hpj (.cons (.refl _) (.cons (.refl _) (.cons (.refl _) .nil))) ?_,AC.own hpj (.cons (.refl _) (.cons (.refl _) (.cons (.refl _) .nil))) ?_⟩
      ·skip
       intro m1 H1 r1 ids1 hm1 hH1 hown1
       obtain⟨q1,q2,q3⟩:=hown1.1.slice
       have hr2:=one_list q2
       have hc1:H1 (nx+2)=some [.h (m+1+5+4+10) 0 1,.nl,.nl]:=(hH1 _ (by omega)).trans (by simp(disch:=omega) only[upd_ne,upd_same])
       try simp-dsimp-implicitDefEqProofs (maxSteps:=800000) (disch:=omega) only[go_sem,undef,prsP,vls,w64,vi,q1,q2,q3,hr2,hc1]
       exact key m1 H1 r1 ids1 (And.intro hm1 (And.intro hH1 hown1))
      ·skip
       intro m1 H1 r1 ids1 hm1 hH1 hown1
       obtain⟨q1,q2,q3⟩:=hown1.1.slice
       have hr2:=one_list q2
       have hc1:H1 (nx+2)=some [.h (m+1+5+4+10) 0 1,.nl,.nl]:=(hH1 _ (by omega)).trans (by simp(disch:=omega) only[upd_ne,upd_same])
       try simp-dsimp-implicitDefEqProofs (maxSteps:=800000) (disch:=omega) only[go_sem,undef,prsP,vls,w64,vi,q1,q2,q3,hr2,hc1]
       refine⟨?_,?_⟩<;>exact key m1 H1 r1 ids1 (And.intro hm1 (And.intro hH1 hown1))
    intro m1 H1 r1 ids1 hC
    obtain⟨hm1,hH1,hown1⟩:=hC
    obtain⟨q1,q2,q3⟩:=hown1.1.slice
    have hr2:=one_list q2
    have hc1:H1 (nx+2)=some [.h (m+1+5+4+10) 0 1,.nl,.nl]:=(hH1 _ (by omega)).trans (by simp(disch:=omega) only[upd_ne,upd_same])
    refine hN _ ?_
    try clear hN N
    refine AW.sr envOk (fun N hN=> ?_)
    simp-dsimp-implicitDefEqProofs (maxSteps:=800000) (disch:=omega) only[go_sem,undef,prsP,vls,w64,vi]
    refine hN _ ?_
    try clear hN N
    refine AW.seq (fun N4 hN4=> ?_)
    refine AW.sr envOk (fun N hN=> ?_)
    simp-dsimp-implicitDefEqProofs (maxSteps:=800000) (disch:=omega) only[go_sem,undef,prsP,vls,w64,vi,ints,hfi]
    refine hN _ ?_
    try clear hN N
    refine AW.block ?_
    refine AW.nameH (fun G1 hG1=> ?_)
    dsimp only at hG1
    have hG1c:G1 (nx+2)=some [.h (m+1+5+4+10) 0 1,.h (m+1+5+4+13+16) 0 1,.nl]:=by rw[←hG1];simp(disch:=omega) only[upd_ne,upd_same]
    have hG1x:G1 (m+1+5+4+10)=some ([.i .i64 (os.getD d 0)]):=by rw[←hG1];simp(disch:=omega) only[upd_ne,upd_same];rw[hH1 _ (by omega)];simp(disch:=omega) only[upd_ne,upd_same]
    have hG1y:G1 (m+1+5+4+13+16)=some ([r1]):=by rw[←hG1];simp(disch:=omega) only[upd_ne,upd_same]
    have hG14:G1 nx=some [.nl,.nl,.nl]:=by rw[←hG1];simp(disch:=omega) only[upd_ne];rw[hH1 _ (by omega)];simp(disch:=omega) only[upd_ne];exact hc4
    have hG1o:Ow G1 r1 (ints (qoPr (pc os pw cj) us d)) ids1:=hown1.1.keep (fun i hi=>by have:=hown1.2.2 i hi;rw[←hG1];simp(disch:=omega) only[upd_ne])
    refine AW.loopN (α:=Nat×HP×Option Nat×List AV) (fun x=>sl 93 [(0,prsP os pw cj),(1,vls os.length us),(4,.q nx 0),(5,.q (nx+2) 0),(6,.i .i64 os.length),(7,ints (frI os.length us)),(10,vi os.length (un d)),(11,oA x.2.2.1 x.1),(23,ints (frI os.length us)),(24,.i .i64 fr.length),(25,.i .i64 k),(66,.v (fr.length-(k+1)) (List.drop (k+1) ((frI os.length us).map (.i .i64)))),(67,.i .i64 ((fr.length-(k+1):Nat):Int)),(68,.i .i64 x.1)]) (fun x=>x.2.1) (fun x m=>(x.1≤fr.length-(k+1)∧m1≤m)∧(∀i,i<m1→x.2.1 i=G1 i)∧(x.2.2.1=none→x.1=0)∧(∀w,x.2.2.1=some w→OutG m1 m w x.2.2.2 x.2.1 (((qoCl (pc os pw cj) us k).map ints).take x.1)∧x.2.2.2.length=x.1)) (fun x=>fr.length-(k+1)-x.1) ((0,G1,none,[])) ?_ ?_ (fun _ _ h=>h) ?_
    ·exact⟨⟨by simp,by first|omega|(simp only;omega)|(dsimp only;omega)⟩,fun _ _=>rfl,fun _=>rfl,by simp⟩
    ·simp(disch:=omega) [wks,wkA,sl,prsP,ints,rows,cubes,vls,oA,hfi]<;>(repeat' apply And.intro)<;>first|omega|exact .inr rfl|(rw[List.take_of_length_le (by simp[hfi])])
    ·skip
     rintro⟨j,H2,(_|w),zs2⟩ m2 ⟨⟨hj,hm2⟩,hH2,hno,hli⟩
     ·skip
      simp-dsimp-implicitDefEqProofs (maxSteps:=800000) (disch:=omega) only[go_sem,undef]
      dsimp only[oA]at hj hm2 hH2 hno hli ⊢
      have hj0:=hno rfl
      refine AW.sr envOk (fun N hN=> ?_)
      simp-dsimp-implicitDefEqProofs (maxSteps:=800000) (disch:=omega) only[go_sem,undef,prsP,vls,w64,vi]
      refine hN _ ?_
      try clear hN N
      refine AW.seq (fun N5 hN5=> ?_)
      refine AW.cond rfl (fun h2=> ?_) (fun h2=> ?_)
      ·try simp only[cn]at h2
       obtain⟨e,he⟩:∃e,fr.getD (k+1+j) 0=e:=⟨_,rfl⟩
       obtain⟨hfe,hen⟩:=hfg (k+1+j) (by omega)
       have hcej:=hce k j (by omega)
       rw[he]at hfe hen
       rw[he,hd]at hcej
       have heT:T (pc os pw cj) 0 (un e):=(unV_T hv hen).1.mono hv (Nat.zero_le e)
       have hpj2:ACo Tryz.prog 84 [prsP os pw cj,vls os.length us,vi os.length (cjE (pc os pw cj) (un e) (un d))] (ints (qoCr (pc os pw cj) us d e)):=impl_project_ok os pw cj h hc us hcn _ (cjE_T hv hc heT hdT).1
       have hclk:=hcl k
       have htk2:=tk1 (L:=(qoCl (pc os pw cj) us k).map ints) (k:=j) (by rw[List.length_map];omega) hcej
       refine AW.skip ?_
       simp only[thn,blk]
       refine hN5 _ ?_
       try clear hN5 N5
       refine AW.seq (fun N6 hN6=> ?_)
       refine AW.block ?_
       refine AW.sr envOk (fun N hN=> ?_)
       simp-dsimp-implicitDefEqProofs (maxSteps:=800000) (disch:=omega) only[go_sem,undef,prsP,vls,w64,vi,ints,gd_dropI,hfe]
       refine hN _ ?_
       try clear hN N
       refine AW.regionL envOk ?_
       simp-dsimp-implicitDefEqProofs (maxSteps:=800000) (disch:=omega) only[go_sem,undef,prsP,vls,w64,vi]
       refine AC.pure (.of (impl_unitVector_v os.length e (by omega) (by omega))) ?_
       try simp-dsimp-implicitDefEqProofs (maxSteps:=800000) (disch:=omega) only[go_sem,undef,prsP,vls,w64,vi]
       refine AC.pure (.of ((impl_conjugate_ok os pw cj h 0 hc (un e) (un d) heT hdT).pure)) ?_
       try simp-dsimp-implicitDefEqProofs (maxSteps:=800000) (disch:=omega) only[go_sem,undef,prsP,vls,w64,vi]
       refine AC.own hpj2 (.cons (.refl _) (.cons (.refl _) (.cons (.refl _) .nil))) ?_
       intro m3 H3 r3 ids3 hm3 hH3 hown3
       obtain⟨u1,u2,u3⟩:=hown3.1.slice
       have hr4:=one_list u2
       try simp-dsimp-implicitDefEqProofs (maxSteps:=800000) (disch:=omega) only[go_sem,undef,prsP,vls,w64,vi,u1,u2,u3,hr4]
       refine hN6 _ ?_
       try clear hN6 N6
       refine AW.nameH (fun G3 hG3=> ?_)
       dsimp only at hG3
       refine AW.regionL envOk ?_
       simp-dsimp-implicitDefEqProofs (maxSteps:=800000) (disch:=omega) only[go_sem,undef,prsP,vls,w64,vi]
       refine⟨(j+1,G3,some (m2+1+3+11),[r3]),?_,fun _ _ h=>h,?_,?_⟩
       ·simp(disch:=omega) [wks,wkA,sl,w64,ints,rows,cubes,prsP,vls,w64,vi]<;>omega
       ·refine⟨⟨by first|omega|(simp only;omega)|(dsimp only;omega),by first|omega|(simp only;omega)|(dsimp only;omega)⟩,fun i hi=> ?_,by simp,fun w' hw'=> ?_⟩
        ·dsimp only;rw[←hG3];simp(disch:=omega) only[upd_ne];rw[hH3 i (by omega)];exact hH2 i hi
        ·cases hw'
         refine⟨?_,by simp;omega⟩
         dsimp only
         rw[htk2]
         rw[hj0,List.take_zero,List.nil_append]
         exact OutG.oneL (m:=m2) (hown3.1.keep (fun i hi=>by have:=hown3.2.2 i hi;rw[←hG3];simp(disch:=omega) only[upd_ne])) hown3.2.1 (fun i hi=>by have:=hown3.2.2 i hi;omega) (by rw[←hG3];simp(disch:=omega) only[upd_ne,upd_same]) (by omega) (by omega) (fun hi=>by have:=hown3.2.2 _ hi;omega) (by omega)
       ·first|omega|(simp only;omega)
      ·try simp only[cn]at h2
       have hje:j=fr.length-(k+1):=by omega
       have hclk:=hcl k
       have hcc:H2 (nx+2)=some [.h (m+1+5+4+10) 0 1,.h (m+1+5+4+13+16) 0 1,.nl]:=(hH2 _ (by omega)).trans hG1c
       have hcz:=hcc
       have hone:(∀q∈ [AV.nl],one q=true)=True:=one_list rfl
       refine AW.exit ?_
       simp only[thn,blk,if_true]
       refine hN4 _ ?_
       try clear hN4 N4
       refine AW.regionL envOk ?_
       simp-dsimp-implicitDefEqProofs (maxSteps:=800000) (disch:=omega) only[go_sem,undef,prsP,vls,w64,vi,hcc,hcz,hl3,List.take_length,hone]
       refine hN3 _ ?_
       try clear hN3 N3
       refine AW.nameH (fun G5 hG5=> ?_)
       dsimp only at hG5
       refine AW.regionL envOk ?_
       simp-dsimp-implicitDefEqProofs (maxSteps:=800000) (disch:=omega) only[go_sem,undef,prsP,vls,w64,vi]
       refine⟨(k+1,G5,(m+1+5+4+10,m+1+5+4+13+16,m2+1+4),([.i .i64 (os.getD d 0)],[r1],[.nl])),?_,fun _ _ h=>h,?_,?_⟩
       ·simp(disch:=omega) [wks,wkA,sl,w64,ints,rows,cubes,prsP,vls,w64,vi]<;>omega
       ·refine⟨⟨by first|omega|(simp only;omega)|(dsimp only;omega),by first|omega|(simp only;omega)|(dsimp only;omega)⟩,?_,.inr ⟨by omega,?_,?_,?_,?_,?_⟩⟩
        ·dsimp only;rw[←hG5];simp(disch:=omega) only[upd_ne];rw[hH2 _ (by omega)];exact hG14
        ·dsimp only;rw[←hG5];simp(disch:=omega) only[upd_ne,upd_same];rw[hk0]
        ·dsimp only
         rw[tk1 (by rw[hoL];exact hkl) (hoG k hkl),tk1 (by rw[hpL];exact hkl) (hpG k hkl),tk1 (by rw[hcL];exact hkl) (hcG k hkl),hd]
         rw[hk0,List.take_zero,List.take_zero,List.take_zero,List.nil_append,List.nil_append,List.nil_append,←hk0]
         refine QsR.first (m:=m) (hG1o.keep (fun i hi=>by have:=hown1.2.2 i hi;rw[←hG5];simp(disch:=omega) only[upd_ne];exact hH2 i (by omega))) (show Ow G5 .nl (rows (qoCl (pc os pw cj) us k)) []from by
          rw[List.length_eq_zero_iff.1 (show(qoCl (pc os pw cj) us k).length=0 by omega)]
          exact .nl) ?_ ?_ (by omega) ?_ ?_ ?_
         ·simp only[List.nodup_cons,List.mem_cons,List.mem_append,not_or,List.nodup_append,List.append_nil]
          have n1:=hown1.2.1
          have n2:=fun i hi=>hown1.2.2 i hi
          grind
         ·intro i hi
          simp only[List.mem_cons,List.mem_append,List.append_nil,List.not_mem_nil,or_false]at hi
          have n2:=fun i hi=>hown1.2.2 i hi
          grind
         ·rw[←hG5];simp(disch:=omega) only[upd_ne];rw[hH2 _ (by omega)];exact hG1x
         ·rw[←hG5];simp(disch:=omega) only[upd_ne];rw[hH2 _ (by omega)];exact hG1y
         ·rw[←hG5];simp(disch:=omega) only[upd_ne,upd_same]
        ·rw[hk0];rfl
        ·rw[hk0];rfl
        ·rw[hk0];rfl
       ·first|omega|(simp only;omega)
     ·skip
      simp-dsimp-implicitDefEqProofs (maxSteps:=800000) (disch:=omega) only[go_sem,undef]
      dsimp only[oA]at hj hm2 hH2 hno hli ⊢
      obtain⟨hOg,hzl⟩:=hli w rfl
      have hzw:=hOg.at'
      have hwl:=hOg.lo
      have hwh:=hOg.hi
      refine AW.sr envOk (fun N hN=> ?_)
      simp-dsimp-implicitDefEqProofs (maxSteps:=800000) (disch:=omega) only[go_sem,undef,prsP,vls,w64,vi]
      refine hN _ ?_
      try clear hN N
      refine AW.seq (fun N7 hN7=> ?_)
      refine AW.cond rfl (fun h3=> ?_) (fun h3=> ?_)
      ·try simp only[cn]at h3
       obtain⟨e,he⟩:∃e,fr.getD (k+1+j) 0=e:=⟨_,rfl⟩
       obtain⟨hfe,hen⟩:=hfg (k+1+j) (by omega)
       have hcej:=hce k j (by omega)
       rw[he]at hfe hen
       rw[he,hd]at hcej
       have heT:T (pc os pw cj) 0 (un e):=(unV_T hv hen).1.mono hv (Nat.zero_le e)
       have hpj2:ACo Tryz.prog 84 [prsP os pw cj,vls os.length us,vi os.length (cjE (pc os pw cj) (un e) (un d))] (ints (qoCr (pc os pw cj) us d e)):=impl_project_ok os pw cj h hc us hcn _ (cjE_T hv hc heT hdT).1
       have hclk:=hcl k
       have htk2:=tk1 (L:=(qoCl (pc os pw cj) us k).map ints) (k:=j) (by rw[List.length_map];omega) hcej
       refine AW.skip ?_
       simp only[thn,blk]
       refine hN7 _ ?_
       try clear hN7 N7
       refine AW.seq (fun N8 hN8=> ?_)
       refine AW.block ?_
       refine AW.sr envOk (fun N hN=> ?_)
       simp-dsimp-implicitDefEqProofs (maxSteps:=800000) (disch:=omega) only[go_sem,undef,prsP,vls,w64,vi,ints,gd_dropI,hfe]
       refine hN _ ?_
       try clear hN N
       refine AW.regionL envOk ?_
       simp-dsimp-implicitDefEqProofs (maxSteps:=800000) (disch:=omega) only[go_sem,undef,prsP,vls,w64,vi]
       refine AC.pure (.of (impl_unitVector_v os.length e (by omega) (by omega))) ?_
       try simp-dsimp-implicitDefEqProofs (maxSteps:=800000) (disch:=omega) only[go_sem,undef,prsP,vls,w64,vi]
       refine AC.pure (.of ((impl_conjugate_ok os pw cj h 0 hc (un e) (un d) heT hdT).pure)) ?_
       try simp-dsimp-implicitDefEqProofs (maxSteps:=800000) (disch:=omega) only[go_sem,undef,prsP,vls,w64,vi]
       refine AC.own hpj2 (.cons (.refl _) (.cons (.refl _) (.cons (.refl _) .nil))) ?_
       intro m3 H3 r3 ids3 hm3 hH3 hown3
       obtain⟨u1,u2,u3⟩:=hown3.1.slice
       have hr4:=one_list u2
       have hw3:H3 w=some zs2:=(hH3 w (by omega)).trans hzw
       try simp-dsimp-implicitDefEqProofs (maxSteps:=800000) (disch:=omega) only[go_sem,undef,prsP,vls,w64,vi,u1,u2,u3,hr4,hw3,hzl,List.take_length]
       refine hN8 _ ?_
       try clear hN8 N8
       refine AW.nameH (fun G3 hG3=> ?_)
       dsimp only at hG3
       refine AW.regionL envOk ?_
       simp-dsimp-implicitDefEqProofs (maxSteps:=800000) (disch:=omega) only[go_sem,undef,prsP,vls,w64,vi]
       refine⟨(j+1,G3,some (m2+1+3+11),zs2++[r3]),?_,fun _ _ h=>h,?_,?_⟩
       ·simp(disch:=omega) [wks,wkA,sl,w64,ints,rows,cubes,prsP,vls,w64,vi]<;>omega
       ·refine⟨⟨by first|omega|(simp only;omega)|(dsimp only;omega),by first|omega|(simp only;omega)|(dsimp only;omega)⟩,fun i hi=> ?_,by simp,fun w' hw'=> ?_⟩
        ·dsimp only;rw[←hG3];simp(disch:=omega) only[upd_ne];rw[hH3 i (by omega)];exact hH2 i hi
        ·cases hw'
         refine⟨?_,by simp;omega⟩
         dsimp only
         rw[htk2]
         exact OutG.pushL hOg (hown3.1.keep (fun i hi=>by have:=hown3.2.2 i hi;rw[←hG3];simp(disch:=omega) only[upd_ne])) hown3.2.1 (fun i hi=>by have:=hown3.2.2 i hi;omega) (fun i j1 j2 j3=>by rw[←hG3];simp(disch:=omega) only[upd_ne];exact hH3 i (by omega)) (by rw[←hG3];simp(disch:=omega) only[upd_ne,upd_same];rw[List.take_of_length_le (Nat.le_of_eq hzl)]) (by omega) (by omega) (fun hi=>by have:=hown3.2.2 _ hi;omega)
       ·first|omega|(simp only;omega)
      ·try simp only[cn]at h3
       have hje:j=fr.length-(k+1):=by omega
       have hclk:=hcl k
       have hcc:H2 (nx+2)=some [.h (m+1+5+4+10) 0 1,.h (m+1+5+4+13+16) 0 1,.nl]:=(hH2 _ (by omega)).trans hG1c
       have hcz:=hcc
       rw[List.take_of_length_le (by rw[List.length_map];omega)]at hOg
       obtain⟨idsL,hoL2,hnL,hbL⟩:=hOg.own (n:=j) hzl.symm
       have hone:(∀q∈ [AV.h w 0 j],one q=true)=True:=one_list rfl
       refine AW.exit ?_
       simp only[thn,blk,if_true]
       refine hN4 _ ?_
       try clear hN4 N4
       refine AW.regionL envOk ?_
       simp-dsimp-implicitDefEqProofs (maxSteps:=800000) (disch:=omega) only[go_sem,undef,prsP,vls,w64,vi,hcc,hcz,hl3,List.take_length,hone]
       refine hN3 _ ?_
       try clear hN3 N3
       refine AW.nameH (fun G5 hG5=> ?_)
       dsimp only at hG5
       refine AW.regionL envOk ?_
       simp-dsimp-implicitDefEqProofs (maxSteps:=800000) (disch:=omega) only[go_sem,undef,prsP,vls,w64,vi]
       refine⟨(k+1,G5,(m+1+5+4+10,m+1+5+4+13+16,m2+1+4),([.i .i64 (os.getD d 0)],[r1],[.h w 0 j])),?_,fun _ _ h=>h,?_,?_⟩
       ·simp(disch:=omega) [wks,wkA,sl,w64,ints,rows,cubes,prsP,vls,w64,vi]<;>omega
       ·refine⟨⟨by first|omega|(simp only;omega)|(dsimp only;omega),by first|omega|(simp only;omega)|(dsimp only;omega)⟩,?_,.inr ⟨by omega,?_,?_,?_,?_,?_⟩⟩
        ·dsimp only;rw[←hG5];simp(disch:=omega) only[upd_ne];rw[hH2 _ (by omega)];exact hG14
        ·dsimp only;rw[←hG5];simp(disch:=omega) only[upd_ne,upd_same];rw[hk0]
        ·dsimp only
         rw[tk1 (by rw[hoL];exact hkl) (hoG k hkl),tk1 (by rw[hpL];exact hkl) (hpG k hkl),tk1 (by rw[hcL];exact hkl) (hcG k hkl),hd]
         have ht0:∀{α:Type} (l:List α),List.take k l=[]:=fun l=>by rw[hk0];exact List.take_zero
         rw[ht0,ht0,ht0,List.nil_append,List.nil_append,List.nil_append]
         refine QsR.first (m:=m) (hG1o.keep (fun i hi=>by have:=hown1.2.2 i hi;rw[←hG5];simp(disch:=omega) only[upd_ne];exact hH2 i (by omega))) (show Ow G5 (.h w 0 j) (rows (qoCl (pc os pw cj) us k)) idsL from by
          have e9:rows (qoCl (pc os pw cj) us k)= .v ((qoCl (pc os pw cj) us k).map ints).length ((qoCl (pc os pw cj) us k).map ints):=by unfold rows;rw[List.length_map]
          rw[e9]
          exact hoL2.keep (fun i hi=>by have:=hbL i hi;rw[←hG5];simp(disch:=omega) only[upd_ne])) ?_ ?_ (by omega) ?_ ?_ ?_
         ·simp only[List.nodup_cons,List.mem_cons,List.mem_append,not_or,List.nodup_append]
          have n1:=hown1.2.1
          have n2:=fun i hi=>hown1.2.2 i hi
          have n3:=hnL
          have n4:=fun i hi=>hbL i hi
          grind
         ·intro i hi
          simp only[List.mem_cons,List.mem_append]at hi
          have n2:=fun i hi=>hown1.2.2 i hi
          have n4:=fun i hi=>hbL i hi
          grind
         ·rw[←hG5];simp(disch:=omega) only[upd_ne];rw[hH2 _ (by omega)];exact hG1x
         ·rw[←hG5];simp(disch:=omega) only[upd_ne];rw[hH2 _ (by omega)];exact hG1y
         ·rw[←hG5];simp(disch:=omega) only[upd_ne,upd_same]
        ·rw[hk0];rfl
        ·rw[hk0];rfl
        ·rw[hk0];rfl
       ·first|omega|(simp only;omega)
   ·try simp only[cn]at h1
    refine AW.exit ?_
    simp only[thn,blk,if_true]
    refine hN1 _ ?_
    try clear hN1 N1
    refine AW.sr envOk (fun N hN=> ?_)
    simp-dsimp-implicitDefEqProofs (maxSteps:=800000) (disch:=omega) only[go_sem,undef,prsP,vls,w64,vi,hcF,hc4,Bool.and_self]
    refine hN _ ?_
    try clear hN N
    refine AW.ret ?_
    simp-dsimp-implicitDefEqProofs (maxSteps:=800000) (disch:=omega) only[go_sem,undef]
    have hz:fr.length=0:=by omega
    have e1:qoO os us=[]:=List.length_eq_zero_iff.1 (by rw[List.length_map]at hoL;omega)
    have e2:qoP (pc os pw cj) us=[]:=List.length_eq_zero_iff.1 (by rw[List.length_map]at hpL;omega)
    have e3:qoC (pc os pw cj) us=[]:=List.length_eq_zero_iff.1 (by rw[List.length_map]at hcL;omega)
    rw[e1,e2,e3]
    exact⟨_,.g _ _ _ (.cons _ _ _ _ _ _ .nl (.cons _ _ _ _ _ _ .nl (.cons _ _ _ _ _ _ .nl .nil))),by simp,by simp⟩
  ·skip
   simp-dsimp-implicitDefEqProofs (maxSteps:=800000) (disch:=omega) only[go_sem,undef]
   try dsimp only
   obtain⟨⟨bx1,bx2⟩,⟨by1,by2⟩,⟨bz1,bz2⟩,nxy,nxz,nyz⟩:=hR.bd
   have hx:=hR.hx
   have hy:=hR.hy
   have hz:=hR.hz
   refine AW.sr envOk (fun N hN=> ?_)
   simp-dsimp-implicitDefEqProofs (maxSteps:=800000) (disch:=omega) only[go_sem,undef,prsP,vls,w64,vi]
   refine hN _ ?_
   try clear hN N
   refine AW.seq (fun N9 hN9=> ?_)
   refine AW.cond rfl (fun h4=> ?_) (fun h4=> ?_)
   ·try simp only[cn]at h4
    have hkl:k<fr.length:=by omega
    obtain⟨d,hd⟩:∃d,fr.getD k 0=d:=⟨_,rfl⟩
    obtain⟨hfk,hdn⟩:=hfg k hkl
    rw[hd]at hfk hdn
    have hpb:=pr4_bd (h.2.1 d hdn)
    have hdT:T (pc os pw cj) 0 (un d):=(unV_T hv hdn).1.mono hv (Nat.zero_le d)
    have hpw:=impl_power_i h 0 hc (un d) hdT (os.getD d 0) (by omega) (by omega)
    rw[pwV_rep (by omega)]at hpw
    have hpj:ACo Tryz.prog 84 [prsP os pw cj,vls os.length us,vi os.length (pwV (pc os pw cj) (un d) (os.getD d 0))] (ints (qoPr (pc os pw cj) us d)):=impl_project_ok os pw cj h hc us hcn _ (pwV_T hv hc hdT _)
    refine AW.skip ?_
    simp only[thn,blk]
    refine hN9 _ ?_
    try clear hN9 N9
    refine AW.seq (fun N10 hN10=> ?_)
    refine AW.block ?_
    refine AW.sr envOk (fun N hN=> ?_)
    simp-dsimp-implicitDefEqProofs (maxSteps:=800000) (disch:=omega) only[go_sem,undef,prsP,vls,w64,vi,ints,gd_i,hfk]
    refine hN _ ?_
    try clear hN N
    refine AW.sr envOk (fun N hN=> ?_)
    simp-dsimp-implicitDefEqProofs (maxSteps:=800000) (disch:=omega) only[go_sem,undef,prsP,vls,w64,vi]
    refine AC.pure (.of (impl_unitVector_v os.length d (by omega) (by omega))) ?_
    try simp-dsimp-implicitDefEqProofs (maxSteps:=800000) (disch:=omega) only[go_sem,undef,prsP,vls,w64,vi]
    refine hN _ ?_
    try clear hN N
    refine AW.seq (fun N hN=> ?_)
    refine AW.drawL envOk (by kernel_rfl) 10 (by kernel_rfl) ?_
    simp-dsimp-implicitDefEqProofs (maxSteps:=800000) (disch:=omega) only[hr_nil,hr_one,hr_if,List.take_succ_cons,List.take_zero,List.drop_succ_cons,List.drop_zero,List.take_nil,List.drop_nil,go_sem,undef,prsP,vls,w64,vi,hcF,ints,gd_i,hx,hl1,List.take_length]
    refine hN _ ?_
    try clear hN N
    refine AW.seq (fun N hN=> ?_)
    apply mk4 (N:=N)
    ·intro key
     refine AW.drawT envOk (by kernel_rfl) [true,false,true,true,true,true,true,true,true,true,true,true,true,false,false,false,false,true,false] (.br 1 (.br 13 (.br 14 (.br 15 (.br 16 (.br 18 .nil .nil) .nil) .nil) .nil) .nil) (.br 13 (.br 1 (.br 14 (.br 15 (.br 16 (.br 18 .nil .nil) .nil) .nil) .nil) (.br 14 (.br 1 (.br 15 (.br 16 (.br 18 .nil .nil) .nil) .nil) (.br 15 (.br 1 (.br 16 (.br 18 .nil .nil) .nil) .nil) .nil)) .nil)) .nil)) (by kernel_rfl) ?_
     simp-dsimp-implicitDefEqProofs (maxSteps:=800000) (disch:=omega) only[go_sem,undef,prsP,vls,w64,vi,ints,gd_i]
     refine⟨AC.pure (.of (hpw)) ?_,AC.pure (.of (hpw)) ?_⟩
     ·skip
      try simp-dsimp-implicitDefEqProofs (maxSteps:=800000) (disch:=omega) only[go_sem,undef,prsP,vls,w64,vi]
      refine AC.own hpj (.cons (.refl _) (.cons (.refl _) (.cons (.refl _) .nil))) ?_
      intro m1 H1 r1 ids1 hm1 hH1 hown1
      obtain⟨q1,q2,q3⟩:=hown1.1.slice
      have hr2:=one_list q2
      have hc1:H1 (nx+2)=some [.h (m+1+5+4+10) 0 (k+1),.h y 0 k,.h z 0 k]:=(hH1 _ (by omega)).trans (by simp(disch:=omega) only[upd_ne,upd_same])
      have hy1:H1 y=some ys:=(hH1 _ (by omega)).trans (by simp(disch:=omega) only[upd_ne,upd_same];exact hy)
      try simp-dsimp-implicitDefEqProofs (maxSteps:=800000) (disch:=omega) only[go_sem,undef,prsP,vls,w64,vi,q1,q2,q3,hr2,hc1,hy1,hl2,List.take_length]
      exact key m1 H1 r1 ids1 (And.intro hm1 (And.intro hH1 hown1))
     ·skip
      try simp-dsimp-implicitDefEqProofs (maxSteps:=800000) (disch:=omega) only[go_sem,undef,prsP,vls,w64,vi]
      refine⟨AC.own hpj (.cons (.refl _) (.cons (.refl _) (.cons (.refl _) .nil))) ?_,AC.own hpj (.cons (.refl _) (.cons (.refl _) (.cons (.refl _) .nil))) ?_⟩
      ·skip
       intro m1 H1 r1 ids1 hm1 hH1 hown1
       obtain⟨q1,q2,q3⟩:=hown1.1.slice
       have hr2:=one_list q2
       have hc1:H1 (nx+2)=some [.h (m+1+5+4+10) 0 (k+1),.h y 0 k,.h z 0 k]:=(hH1 _ (by omega)).trans (by simp(disch:=omega) only[upd_ne,upd_same])
       have hy1:H1 y=some ys:=(hH1 _ (by omega)).trans (by simp(disch:=omega) only[upd_ne,upd_same];exact hy)
       try simp-dsimp-implicitDefEqProofs (maxSteps:=800000) (disch:=omega) only[go_sem,undef,prsP,vls,w64,vi,q1,q2,q3,hr2,hc1,hy1,hl2,List.take_length]
       exact key m1 H1 r1 ids1 (And.intro hm1 (And.intro hH1 hown1))
      ·skip
       intro m1 H1 r1 ids1 hm1 hH1 hown1
       obtain⟨q1,q2,q3⟩:=hown1.1.slice
       have hr2:=one_list q2
       have hc1:H1 (nx+2)=some [.h (m+1+5+4+10) 0 (k+1),.h y 0 k,.h z 0 k]:=(hH1 _ (by omega)).trans (by simp(disch:=omega) only[upd_ne,upd_same])
       have hy1:H1 y=some ys:=(hH1 _ (by omega)).trans (by simp(disch:=omega) only[upd_ne,upd_same];exact hy)
       try simp-dsimp-implicitDefEqProofs (maxSteps:=800000) (disch:=omega) only[go_sem,undef,prsP,vls,w64,vi,q1,q2,q3,hr2,hc1,hy1,hl2,List.take_length]
       refine⟨?_,?_⟩<;>exact key m1 H1 r1 ids1 (And.intro hm1 (And.intro hH1 hown1))
    intro m1 H1 r1 ids1 hC
    obtain⟨hm1,hH1,hown1⟩:=hC
    obtain⟨q1,q2,q3⟩:=hown1.1.slice
    have hr2:=one_list q2
    have hc1:H1 (nx+2)=some [.h (m+1+5+4+10) 0 (k+1),.h y 0 k,.h z 0 k]:=(hH1 _ (by omega)).trans (by simp(disch:=omega) only[upd_ne,upd_same])
    have hy1:H1 y=some ys:=(hH1 _ (by omega)).trans (by simp(disch:=omega) only[upd_ne,upd_same];exact hy)
    refine hN _ ?_
    try clear hN N
    refine AW.sr envOk (fun N hN=> ?_)
    simp-dsimp-implicitDefEqProofs (maxSteps:=800000) (disch:=omega) only[go_sem,undef,prsP,vls,w64,vi]
    refine hN _ ?_
    try clear hN N
    refine AW.seq (fun N11 hN11=> ?_)
    refine AW.sr envOk (fun N hN=> ?_)
    simp-dsimp-implicitDefEqProofs (maxSteps:=800000) (disch:=omega) only[go_sem,undef,prsP,vls,w64,vi,ints,hfi]
    refine hN _ ?_
    try clear hN N
    refine AW.block ?_
    refine AW.nameH (fun G1 hG1=> ?_)
    dsimp only at hG1
    have hG1c:G1 (nx+2)=some [.h (m+1+5+4+10) 0 (k+1),.h (m+1+5+4+13+16) 0 (k+1),.h z 0 k]:=by rw[←hG1];simp(disch:=omega) only[upd_ne,upd_same]
    have hG1x:G1 (m+1+5+4+10)=some (xs++[.i .i64 (os.getD d 0)]):=by rw[←hG1];simp(disch:=omega) only[upd_ne,upd_same];rw[hH1 _ (by omega)];simp(disch:=omega) only[upd_ne,upd_same];rw[List.take_of_length_le (by omega)]
    have hG1y:G1 (m+1+5+4+13+16)=some (ys++[r1]):=by rw[←hG1];simp(disch:=omega) only[upd_ne,upd_same];rw[List.take_of_length_le (by omega)]
    have hG14:G1 nx=some [.nl,.nl,.nl]:=by rw[←hG1];simp(disch:=omega) only[upd_ne];rw[hH1 _ (by omega)];simp(disch:=omega) only[upd_ne];exact hc4
    have hG1o:Ow G1 r1 (ints (qoPr (pc os pw cj) us d)) ids1:=hown1.1.keep (fun i hi=>by have:=hown1.2.2 i hi;rw[←hG1];simp(disch:=omega) only[upd_ne])
    have hG1z:G1 z=some zs:=by rw[←hG1];simp(disch:=omega) only[upd_ne];rw[hH1 _ (by omega)];simp(disch:=omega) only[upd_ne];exact hz
    have hG1k:∀i,nx+3≤i→i<m→i≠x→i≠y→G1 i=H i:=fun i j1 j2 j3 j4=>by rw[←hG1];simp(disch:=omega) only[upd_ne];rw[hH1 _ (by omega)];simp(disch:=omega) only[upd_ne]
    refine AW.loopN (α:=Nat×HP×Option Nat×List AV) (fun x=>sl 93 [(0,prsP os pw cj),(1,vls os.length us),(4,.q nx 0),(5,.q (nx+2) 0),(6,.i .i64 os.length),(7,ints (frI os.length us)),(10,vi os.length (un d)),(11,oA x.2.2.1 x.1),(23,ints (frI os.length us)),(24,.i .i64 fr.length),(25,.i .i64 k),(66,.v (fr.length-(k+1)) (List.drop (k+1) ((frI os.length us).map (.i .i64)))),(67,.i .i64 ((fr.length-(k+1):Nat):Int)),(68,.i .i64 x.1)]) (fun x=>x.2.1) (fun x m=>(x.1≤fr.length-(k+1)∧m1≤m)∧(∀i,i<m1→x.2.1 i=G1 i)∧(x.2.2.1=none→x.1=0)∧(∀w,x.2.2.1=some w→OutG m1 m w x.2.2.2 x.2.1 (((qoCl (pc os pw cj) us k).map ints).take x.1)∧x.2.2.2.length=x.1)) (fun x=>fr.length-(k+1)-x.1) ((0,G1,none,[])) ?_ ?_ (fun _ _ h=>h) ?_
    ·exact⟨⟨by simp,by first|omega|(simp only;omega)|(dsimp only;omega)⟩,fun _ _=>rfl,fun _=>rfl,by simp⟩
    ·simp(disch:=omega) [wks,wkA,sl,prsP,ints,rows,cubes,vls,oA,hfi]<;>(repeat' apply And.intro)<;>first|omega|exact .inr rfl|(rw[List.take_of_length_le (by simp[hfi])])
    ·skip
     rintro⟨j,H2,(_|w),zs2⟩ m2 ⟨⟨hj,hm2⟩,hH2,hno,hli⟩
     ·skip
      simp-dsimp-implicitDefEqProofs (maxSteps:=800000) (disch:=omega) only[go_sem,undef]
      dsimp only[oA]at hj hm2 hH2 hno hli ⊢
      have hj0:=hno rfl
      refine AW.sr envOk (fun N hN=> ?_)
      simp-dsimp-implicitDefEqProofs (maxSteps:=800000) (disch:=omega) only[go_sem,undef,prsP,vls,w64,vi]
      refine hN _ ?_
      try clear hN N
      refine AW.seq (fun N12 hN12=> ?_)
      refine AW.cond rfl (fun h5=> ?_) (fun h5=> ?_)
      ·try simp only[cn]at h5
       obtain⟨e,he⟩:∃e,fr.getD (k+1+j) 0=e:=⟨_,rfl⟩
       obtain⟨hfe,hen⟩:=hfg (k+1+j) (by omega)
       have hcej:=hce k j (by omega)
       rw[he]at hfe hen
       rw[he,hd]at hcej
       have heT:T (pc os pw cj) 0 (un e):=(unV_T hv hen).1.mono hv (Nat.zero_le e)
       have hpj2:ACo Tryz.prog 84 [prsP os pw cj,vls os.length us,vi os.length (cjE (pc os pw cj) (un e) (un d))] (ints (qoCr (pc os pw cj) us d e)):=impl_project_ok os pw cj h hc us hcn _ (cjE_T hv hc heT hdT).1
       have hclk:=hcl k
       have htk2:=tk1 (L:=(qoCl (pc os pw cj) us k).map ints) (k:=j) (by rw[List.length_map];omega) hcej
       refine AW.skip ?_
       simp only[thn,blk]
       refine hN12 _ ?_
       try clear hN12 N12
       refine AW.seq (fun N13 hN13=> ?_)
       refine AW.block ?_
       refine AW.sr envOk (fun N hN=> ?_)
       simp-dsimp-implicitDefEqProofs (maxSteps:=800000) (disch:=omega) only[go_sem,undef,prsP,vls,w64,vi,ints,gd_dropI,hfe]
       refine hN _ ?_
       try clear hN N
       refine AW.regionL envOk ?_
       simp-dsimp-implicitDefEqProofs (maxSteps:=800000) (disch:=omega) only[go_sem,undef,prsP,vls,w64,vi]
       refine AC.pure (.of (impl_unitVector_v os.length e (by omega) (by omega))) ?_
       try simp-dsimp-implicitDefEqProofs (maxSteps:=800000) (disch:=omega) only[go_sem,undef,prsP,vls,w64,vi]
       refine AC.pure (.of ((impl_conjugate_ok os pw cj h 0 hc (un e) (un d) heT hdT).pure)) ?_
       try simp-dsimp-implicitDefEqProofs (maxSteps:=800000) (disch:=omega) only[go_sem,undef,prsP,vls,w64,vi]
       refine AC.own hpj2 (.cons (.refl _) (.cons (.refl _) (.cons (.refl _) .nil))) ?_
       intro m3 H3 r3 ids3 hm3 hH3 hown3
       obtain⟨u1,u2,u3⟩:=hown3.1.slice
       have hr4:=one_list u2
       try simp-dsimp-implicitDefEqProofs (maxSteps:=800000) (disch:=omega) only[go_sem,undef,prsP,vls,w64,vi,u1,u2,u3,hr4]
       refine hN13 _ ?_
       try clear hN13 N13
       refine AW.nameH (fun G3 hG3=> ?_)
       dsimp only at hG3
       refine AW.regionL envOk ?_
       simp-dsimp-implicitDefEqProofs (maxSteps:=800000) (disch:=omega) only[go_sem,undef,prsP,vls,w64,vi]
       refine⟨(j+1,G3,some (m2+1+3+11),[r3]),?_,fun _ _ h=>h,?_,?_⟩
       ·simp(disch:=omega) [wks,wkA,sl,w64,ints,rows,cubes,prsP,vls,w64,vi]<;>omega
       ·refine⟨⟨by first|omega|(simp only;omega)|(dsimp only;omega),by first|omega|(simp only;omega)|(dsimp only;omega)⟩,fun i hi=> ?_,by simp,fun w' hw'=> ?_⟩
        ·dsimp only;rw[←hG3];simp(disch:=omega) only[upd_ne];rw[hH3 i (by omega)];exact hH2 i hi
        ·cases hw'
         refine⟨?_,by simp;omega⟩
         dsimp only
         rw[htk2]
         rw[hj0,List.take_zero,List.nil_append]
         exact OutG.oneL (m:=m2) (hown3.1.keep (fun i hi=>by have:=hown3.2.2 i hi;rw[←hG3];simp(disch:=omega) only[upd_ne])) hown3.2.1 (fun i hi=>by have:=hown3.2.2 i hi;omega) (by rw[←hG3];simp(disch:=omega) only[upd_ne,upd_same]) (by omega) (by omega) (fun hi=>by have:=hown3.2.2 _ hi;omega) (by omega)
       ·first|omega|(simp only;omega)
      ·try simp only[cn]at h5
       have hje:j=fr.length-(k+1):=by omega
       have hclk:=hcl k
       have hcc:H2 (nx+2)=some [.h (m+1+5+4+10) 0 (k+1),.h (m+1+5+4+13+16) 0 (k+1),.h z 0 k]:=(hH2 _ (by omega)).trans hG1c
       have hcz:H2 z=some zs:=(hH2 _ (by omega)).trans hG1z
       have hone:(∀q∈ [AV.nl],one q=true)=True:=one_list rfl
       refine AW.exit ?_
       simp only[thn,blk,if_true]
       refine hN11 _ ?_
       try clear hN11 N11
       refine AW.regionL envOk ?_
       simp-dsimp-implicitDefEqProofs (maxSteps:=800000) (disch:=omega) only[go_sem,undef,prsP,vls,w64,vi,hcc,hcz,hl3,List.take_length,hone]
       refine hN10 _ ?_
       try clear hN10 N10
       refine AW.nameH (fun G5 hG5=> ?_)
       dsimp only at hG5
       refine AW.regionL envOk ?_
       simp-dsimp-implicitDefEqProofs (maxSteps:=800000) (disch:=omega) only[go_sem,undef,prsP,vls,w64,vi]
       refine⟨(k+1,G5,(m+1+5+4+10,m+1+5+4+13+16,m2+1+4),(xs++[.i .i64 (os.getD d 0)],ys++[r1],zs++[.nl])),?_,fun _ _ h=>h,?_,?_⟩
       ·simp(disch:=omega) [wks,wkA,sl,w64,ints,rows,cubes,prsP,vls,w64,vi]<;>omega
       ·refine⟨⟨by first|omega|(simp only;omega)|(dsimp only;omega),by first|omega|(simp only;omega)|(dsimp only;omega)⟩,?_,.inr ⟨by omega,?_,?_,?_,?_,?_⟩⟩
        ·dsimp only;rw[←hG5];simp(disch:=omega) only[upd_ne];rw[hH2 _ (by omega)];exact hG14
        ·dsimp only;rw[←hG5];simp(disch:=omega) only[upd_ne,upd_same]
        ·dsimp only
         rw[tk1 (by rw[hoL];exact hkl) (hoG k hkl),tk1 (by rw[hpL];exact hkl) (hpG k hkl),tk1 (by rw[hcL];exact hkl) (hcG k hkl),hd]
         refine QsR.next hR (hG1o.keep (fun i hi=>by have:=hown1.2.2 i hi;rw[←hG5];simp(disch:=omega) only[upd_ne];exact hH2 i (by omega))) (show Ow G5 .nl (rows (qoCl (pc os pw cj) us k)) []from by
          rw[List.length_eq_zero_iff.1 (show(qoCl (pc os pw cj) us k).length=0 by omega)]
          exact .nl) ?_ ?_ (by omega) (by omega) ?_ ?_ ?_ ?_
         ·simp only[List.nodup_cons,List.mem_cons,List.mem_append,not_or,List.nodup_append,List.append_nil]
          have n1:=hown1.2.1
          have n2:=fun i hi=>hown1.2.2 i hi
          grind
         ·intro i hi
          simp only[List.mem_cons,List.mem_append,List.append_nil,List.not_mem_nil,or_false]at hi
          have n2:=fun i hi=>hown1.2.2 i hi
          grind
         ·rw[←hG5];simp(disch:=omega) only[upd_ne];rw[hH2 _ (by omega)];exact hG1x
         ·rw[←hG5];simp(disch:=omega) only[upd_ne];rw[hH2 _ (by omega)];exact hG1y
         ·rw[←hG5];simp(disch:=omega) only[upd_ne,upd_same];rw[List.take_of_length_le (by omega)]
         ·intro i j1 j2 j3 j4 j5;rw[←hG5];simp(disch:=omega) only[upd_ne];rw[hH2 _ (by omega)];exact hG1k i j1 j2 j3 j4
        ·simp[hl1]
        ·simp[hl2]
        ·simp[hl3]
       ·first|omega|(simp only;omega)
     ·skip
      simp-dsimp-implicitDefEqProofs (maxSteps:=800000) (disch:=omega) only[go_sem,undef]
      dsimp only[oA]at hj hm2 hH2 hno hli ⊢
      obtain⟨hOg,hzl⟩:=hli w rfl
      have hzw:=hOg.at'
      have hwl:=hOg.lo
      have hwh:=hOg.hi
      refine AW.sr envOk (fun N hN=> ?_)
      simp-dsimp-implicitDefEqProofs (maxSteps:=800000) (disch:=omega) only[go_sem,undef,prsP,vls,w64,vi]
      refine hN _ ?_
      try clear hN N
      refine AW.seq (fun N14 hN14=> ?_)
      refine AW.cond rfl (fun h6=> ?_) (fun h6=> ?_)
      ·try simp only[cn]at h6
       obtain⟨e,he⟩:∃e,fr.getD (k+1+j) 0=e:=⟨_,rfl⟩
       obtain⟨hfe,hen⟩:=hfg (k+1+j) (by omega)
       have hcej:=hce k j (by omega)
       rw[he]at hfe hen
       rw[he,hd]at hcej
       have heT:T (pc os pw cj) 0 (un e):=(unV_T hv hen).1.mono hv (Nat.zero_le e)
       have hpj2:ACo Tryz.prog 84 [prsP os pw cj,vls os.length us,vi os.length (cjE (pc os pw cj) (un e) (un d))] (ints (qoCr (pc os pw cj) us d e)):=impl_project_ok os pw cj h hc us hcn _ (cjE_T hv hc heT hdT).1
       have hclk:=hcl k
       have htk2:=tk1 (L:=(qoCl (pc os pw cj) us k).map ints) (k:=j) (by rw[List.length_map];omega) hcej
       refine AW.skip ?_
       simp only[thn,blk]
       refine hN14 _ ?_
       try clear hN14 N14
       refine AW.seq (fun N15 hN15=> ?_)
       refine AW.block ?_
       refine AW.sr envOk (fun N hN=> ?_)
       simp-dsimp-implicitDefEqProofs (maxSteps:=800000) (disch:=omega) only[go_sem,undef,prsP,vls,w64,vi,ints,gd_dropI,hfe]
       refine hN _ ?_
       try clear hN N
       refine AW.regionL envOk ?_
       simp-dsimp-implicitDefEqProofs (maxSteps:=800000) (disch:=omega) only[go_sem,undef,prsP,vls,w64,vi]
       refine AC.pure (.of (impl_unitVector_v os.length e (by omega) (by omega))) ?_
       try simp-dsimp-implicitDefEqProofs (maxSteps:=800000) (disch:=omega) only[go_sem,undef,prsP,vls,w64,vi]
       refine AC.pure (.of ((impl_conjugate_ok os pw cj h 0 hc (un e) (un d) heT hdT).pure)) ?_
       try simp-dsimp-implicitDefEqProofs (maxSteps:=800000) (disch:=omega) only[go_sem,undef,prsP,vls,w64,vi]
       refine AC.own hpj2 (.cons (.refl _) (.cons (.refl _) (.cons (.refl _) .nil))) ?_
       intro m3 H3 r3 ids3 hm3 hH3 hown3
       obtain⟨u1,u2,u3⟩:=hown3.1.slice
       have hr4:=one_list u2
       have hw3:H3 w=some zs2:=(hH3 w (by omega)).trans hzw
       try simp-dsimp-implicitDefEqProofs (maxSteps:=800000) (disch:=omega) only[go_sem,undef,prsP,vls,w64,vi,u1,u2,u3,hr4,hw3,hzl,List.take_length]
       refine hN15 _ ?_
       try clear hN15 N15
       refine AW.nameH (fun G3 hG3=> ?_)
       dsimp only at hG3
       refine AW.regionL envOk ?_
       simp-dsimp-implicitDefEqProofs (maxSteps:=800000) (disch:=omega) only[go_sem,undef,prsP,vls,w64,vi]
       refine⟨(j+1,G3,some (m2+1+3+11),zs2++[r3]),?_,fun _ _ h=>h,?_,?_⟩
       ·simp(disch:=omega) [wks,wkA,sl,w64,ints,rows,cubes,prsP,vls,w64,vi]<;>omega
       ·refine⟨⟨by first|omega|(simp only;omega)|(dsimp only;omega),by first|omega|(simp only;omega)|(dsimp only;omega)⟩,fun i hi=> ?_,by simp,fun w' hw'=> ?_⟩
        ·dsimp only;rw[←hG3];simp(disch:=omega) only[upd_ne];rw[hH3 i (by omega)];exact hH2 i hi
        ·cases hw'
         refine⟨?_,by simp;omega⟩
         dsimp only
         rw[htk2]
         exact OutG.pushL hOg (hown3.1.keep (fun i hi=>by have:=hown3.2.2 i hi;rw[←hG3];simp(disch:=omega) only[upd_ne])) hown3.2.1 (fun i hi=>by have:=hown3.2.2 i hi;omega) (fun i j1 j2 j3=>by rw[←hG3];simp(disch:=omega) only[upd_ne];exact hH3 i (by omega)) (by rw[←hG3];simp(disch:=omega) only[upd_ne,upd_same];rw[List.take_of_length_le (Nat.le_of_eq hzl)]) (by omega) (by omega) (fun hi=>by have:=hown3.2.2 _ hi;omega)
       ·first|omega|(simp only;omega)
      ·try simp only[cn]at h6
       have hje:j=fr.length-(k+1):=by omega
       have hclk:=hcl k
       have hcc:H2 (nx+2)=some [.h (m+1+5+4+10) 0 (k+1),.h (m+1+5+4+13+16) 0 (k+1),.h z 0 k]:=(hH2 _ (by omega)).trans hG1c
       have hcz:H2 z=some zs:=(hH2 _ (by omega)).trans hG1z
       rw[List.take_of_length_le (by rw[List.length_map];omega)]at hOg
       obtain⟨idsL,hoL2,hnL,hbL⟩:=hOg.own (n:=j) hzl.symm
       have hone:(∀q∈ [AV.h w 0 j],one q=true)=True:=one_list rfl
       refine AW.exit ?_
       simp only[thn,blk,if_true]
       refine hN11 _ ?_
       try clear hN11 N11
       refine AW.regionL envOk ?_
       simp-dsimp-implicitDefEqProofs (maxSteps:=800000) (disch:=omega) only[go_sem,undef,prsP,vls,w64,vi,hcc,hcz,hl3,List.take_length,hone]
       refine hN10 _ ?_
       try clear hN10 N10
       refine AW.nameH (fun G5 hG5=> ?_)
       dsimp only at hG5
       refine AW.regionL envOk ?_
       simp-dsimp-implicitDefEqProofs (maxSteps:=800000) (disch:=omega) only[go_sem,undef,prsP,vls,w64,vi]
       refine⟨(k+1,G5,(m+1+5+4+10,m+1+5+4+13+16,m2+1+4),(xs++[.i .i64 (os.getD d 0)],ys++[r1],zs++[.h w 0 j])),?_,fun _ _ h=>h,?_,?_⟩
       ·simp(disch:=omega) [wks,wkA,sl,w64,ints,rows,cubes,prsP,vls,w64,vi]<;>omega
       ·refine⟨⟨by first|omega|(simp only;omega)|(dsimp only;omega),by first|omega|(simp only;omega)|(dsimp only;omega)⟩,?_,.inr ⟨by omega,?_,?_,?_,?_,?_⟩⟩
        ·dsimp only;rw[←hG5];simp(disch:=omega) only[upd_ne];rw[hH2 _ (by omega)];exact hG14
        ·dsimp only;rw[←hG5];simp(disch:=omega) only[upd_ne,upd_same]
        ·dsimp only
         rw[tk1 (by rw[hoL];exact hkl) (hoG k hkl),tk1 (by rw[hpL];exact hkl) (hpG k hkl),tk1 (by rw[hcL];exact hkl) (hcG k hkl),hd]
         refine QsR.next hR (hG1o.keep (fun i hi=>by have:=hown1.2.2 i hi;rw[←hG5];simp(disch:=omega) only[upd_ne];exact hH2 i (by omega))) (show Ow G5 (.h w 0 j) (rows (qoCl (pc os pw cj) us k)) idsL from by
          have e9:rows (qoCl (pc os pw cj) us k)= .v ((qoCl (pc os pw cj) us k).map ints).length ((qoCl (pc os pw cj) us k).map ints):=by unfold rows;rw[List.length_map]
          rw[e9]
          exact hoL2.keep (fun i hi=>by have:=hbL i hi;rw[←hG5];simp(disch:=omega) only[upd_ne])) ?_ ?_ (by omega) (by omega) ?_ ?_ ?_ ?_
         ·simp only[List.nodup_cons,List.mem_cons,List.mem_append,not_or,List.nodup_append]
          have n1:=hown1.2.1
          have n2:=fun i hi=>hown1.2.2 i hi
          have n3:=hnL
          have n4:=fun i hi=>hbL i hi
          grind
         ·intro i hi
          simp only[List.mem_cons,List.mem_append]at hi
          have n2:=fun i hi=>hown1.2.2 i hi
          have n4:=fun i hi=>hbL i hi
          grind
         ·rw[←hG5];simp(disch:=omega) only[upd_ne];rw[hH2 _ (by omega)];exact hG1x
         ·rw[←hG5];simp(disch:=omega) only[upd_ne];rw[hH2 _ (by omega)];exact hG1y
         ·rw[←hG5];simp(disch:=omega) only[upd_ne,upd_same];rw[List.take_of_length_le (by omega)]
         ·intro i j1 j2 j3 j4 j5;rw[←hG5];simp(disch:=omega) only[upd_ne];rw[hH2 _ (by omega)];exact hG1k i j1 j2 j3 j4
        ·simp[hl1]
        ·simp[hl2]
        ·simp[hl3]
       ·first|omega|(simp only;omega)
   ·try simp only[cn]at h4
    refine AW.exit ?_
    simp only[thn,blk,if_true]
    refine hN1 _ ?_
    try clear hN1 N1
    refine AW.sr envOk (fun N hN=> ?_)
    simp-dsimp-implicitDefEqProofs (maxSteps:=800000) (disch:=omega) only[go_sem,undef,prsP,vls,w64,vi,hcF,hc4,Bool.and_self]
    refine hN _ ?_
    try clear hN N
    refine AW.ret ?_
    simp-dsimp-implicitDefEqProofs (maxSteps:=800000) (disch:=omega) only[go_sem,undef]
    have hke:k=fr.length:=by omega
    obtain⟨ids,ho⟩:=hR.own
    rw[hl1,hl2,hl3,List.take_of_length_le (by omega),List.take_of_length_le (by omega),List.take_of_length_le (by omega)]at ho
    have e:prs (qoO os us) (qoP (pc os pw cj) us) (qoC (pc os pw cj) us)= .g [.v ((qoO os us).map (AV.i .i64)).length ((qoO os us).map (AV.i .i64)),.v ((qoP (pc os pw cj) us).map ints).length ((qoP (pc os pw cj) us).map ints),.v ((qoC (pc os pw cj) us).map rows).length ((qoC (pc os pw cj) us).map rows)]:=by
     unfold prs cubes
     rw[List.length_map,List.length_map,List.length_map]
     rfl
    rw[e]
    exact⟨ids,ho.keep (fun i _ _=>by simp(disch:=omega) only[upd_ne]) (by omega) (by omega)⟩
end
end Go.Proofs.YtnlfbimjcabgiaaGreat
