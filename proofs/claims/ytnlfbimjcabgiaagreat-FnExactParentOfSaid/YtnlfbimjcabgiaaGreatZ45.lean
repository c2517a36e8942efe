import Derived.Test.YtnlfbimjcabgiaaGreatZ41
import Derived.Test.YtnlfbimjcabgiaaGreatZ44
set_option linter.unusedVariables false
set_option linter.unusedSimpArgs false
namespace Go.Proofs.YtnlfbimjcabgiaaGreat
open Nat (reduceAdd reduceSub reduceGT reduceEqDiff reduceMul)
def vcs (n:Nat) (K:List (List V)):AV:= .v K.length (K.map (vls n))
theorem vcs_nr (n:Nat) (K:List (List V)):NR (vcs n K):= .v _ _ (fun k y hk=>by
  obtain⟨z,_,rfl⟩:=List.mem_map.1 (List.mem_of_getElem? hk);exact vls_nr _ _)
theorem vc_last {n:Nat} {K:List (List V)} {u:List V}:(K.map (vls n)++[vls n u]).getD K.length .j=vls n u:=by
  rw[List.getD_eq_getElem?_getD,List.getElem?_append_right (by simp)]
  simp
theorem exK_fix {P:Pc} {q:Int} {f:Nat} {us:List V} (hf:us.length≤f) (h:(exN P q us).length<us.length):∃f',f=f'+1∧exK P q f us=us::exK P q f' (exN P q us):=by
  obtain⟨f',rfl⟩:∃f',f=f'+1:=⟨f-1,by omega⟩
  exact⟨f',rfl,by rw[exK,if_neg (by omega)]⟩
section
variable (os:List Int) (pw:List (List Int)) (cj:List (List (List Int)))
theorem spec_l17Exponent_ok (h:presOk os pw cj) (hc:Con (pc os pw cj) 0) (q:Int) (hq:0≤q∧q≤1000):ACp Tryz.prog 38 [prs os pw cj,.i .i64 q] (vcs os.length (exK (pc os pw cj) q os.length (unL os.length))):=by
 have hn6:=h.1.1
 have hv:=h.val
 have hpr:=h.2.1
 have hp:∀d,d<(pc os pw cj).n→pr4 ((pc os pw cj).o d):=fun d hd=>hpr d hd
 have hn0:(pc os pw cj).n=os.length:=rfl
 have hul:=unL_len (n:=os.length)
 have hfst:ExP (pc os pw cj) (unL os.length):=ExP.first hv hc
 obtain⟨R,hR⟩:∃R,exK (pc os pw cj) q os.length (unL os.length)=R:=⟨_,rfl⟩
 rw[hR]
 refine ACp.introV envOk Tryz.func38 rfl (by kernel_rfl) Tryz.ntmps38 Tryz.results38 ((vcs_nr _ _)) (fun nx=> ?_)
 refine AW.sr envOk (fun N hN=> ?_)
 simp-dsimp-implicitDefEqProofs (maxSteps:=800000) (disch:=omega) only[go_sem,undef,prs,prsP,w64,vls,vi]
 refine hN _ ?_
 try clear hN N
 refine AW.freezeQ 2 nx _ rfl (upd_same _ _ _) ?_
 simp-dsimp-implicitDefEqProofs (maxSteps:=800000) (disch:=omega) only[go_sem,undef]
 refine AW.sr envOk (fun N hN=> ?_)
 simp-dsimp-implicitDefEqProofs (maxSteps:=800000) (disch:=omega) only[go_sem,undef,prs,prsP,w64,vls,vi]
 refine AC.pure (.of (spec_l12Whole_v os pw cj (by omega))) ?_
 try simp-dsimp-implicitDefEqProofs (maxSteps:=800000) (disch:=omega) only[go_sem,undef,prs,prsP,w64,vls,vi]
 refine hN _ ?_
 try clear hN N
 refine AW.block ?_
 refine AW.loopN (α:=Nat×List (List V)×List V×Nat) (fun x=>sl 31 [(1,.i .i64 q),(2,prsP os pw cj),(5,.h x.1 0 (x.2.1.length+1))]) (fun x=>upd noH x.1 (some (x.2.1.map (vls os.length)++[vls os.length x.2.2.1]))) (fun x m=>(nx≤x.1∧x.1<m∧x.2.1.length+x.2.2.2≤os.length∧x.2.2.1.length≤x.2.2.2)∧ExP (pc os pw cj) x.2.2.1∧x.2.1++exK (pc os pw cj) q x.2.2.2 x.2.2.1=R) (fun x=>x.2.2.2) ((nx+2+2,[],unL os.length,os.length)) ?_ ?_ (by intro d cs hd;simp only[upd,noH,List.map_nil,List.nil_append,vls]at hd ⊢;grind) ?_
 ·exact⟨⟨by first|omega|(simp only;omega)|(dsimp only;omega),by first|omega|(simp only;omega)|(dsimp only;omega),by simp,by simp[hul]⟩,hfst,by simpa using hR⟩
 ·simp(disch:=omega) [wks,wkA,sl,prsP,ints,rows,cubes]
 ·skip
  rintro⟨id,K,u,f⟩ m ⟨⟨hid,hm,hKf,huf⟩,hE,hC⟩
  dsimp only at hid hm hKf huf hE hC ⊢
  have hnxt:=ExP.next hv hc hp hE (q:=q)
  have hul6:=hE.2.1.len
  rw[hn0]at hul6
  have hgl:(K.map (vls os.length)++[AV.v u.length (u.map (vi os.length))]).getD K.length .j=AV.v u.length (u.map (vi os.length)):=vc_last
  have hix:(((K.length+1:Nat):Int)-1).toNat=K.length:=by omega
  simp only[prsP]
  simp-dsimp-implicitDefEqProofs (maxSteps:=800000) (disch:=omega) only[go_sem,undef]
  refine AW.block ?_
  refine AW.sr envOk (fun N hN=> ?_)
  simp-dsimp-implicitDefEqProofs (maxSteps:=800000) (disch:=omega) only[go_sem,undef,prs,prsP,w64,vls,vi,hix,hgl]
  refine hN _ ?_
  try clear hN N
  refine AW.sr envOk (fun N hN=> ?_)
  simp-dsimp-implicitDefEqProofs (maxSteps:=800000) (disch:=omega) only[go_sem,undef,prs,prsP,w64,vls,vi]
  refine AC.pure (.of (spec_l17Next_ok os pw cj h hc u (by omega) hE.1 q hq)) ?_
  try simp-dsimp-implicitDefEqProofs (maxSteps:=800000) (disch:=omega) only[go_sem,undef,prs,prsP,w64,vls,vi]
  refine hN _ ?_
  try clear hN N
  refine AW.seq (fun N1 hN1=> ?_)
  refine AW.sr envOk (fun N hN=> ?_)
  simp-dsimp-implicitDefEqProofs (maxSteps:=800000) (disch:=omega) only[go_sem,undef,prs,prsP,w64,vls,vi]
  refine hN _ ?_
  try clear hN N
  refine AW.cond rfl (fun h1=> ?_) (fun h1=> ?_)
  ·try simp only[cn]at h1
   refine AW.sr envOk (fun N hN=> ?_)
   simp-dsimp-implicitDefEqProofs (maxSteps:=800000) (disch:=omega) only[go_sem,undef,prs,prsP,w64,vls,vi]
   refine hN _ ?_
   try clear hN N
   refine AW.ret ?_
   simp-dsimp-implicitDefEqProofs (maxSteps:=800000) (disch:=omega) only[go_sem,undef]
   rw[exK_z (P:=pc os pw cj) (q:=q) (us:=u) (by omega)]at hC
   rw[←hC]
   unfold vcs
   rw[show(K++[u]).length=K.length+1 from by simp,List.map_append]
   exact Vw.blk (upd_same _ _ _) (by simp)
  ·try simp only[cn]at h1
   obtain⟨f',rfl,he⟩:=exK_fix (P:=pc os pw cj) (q:=q) huf (by omega)
   refine AW.skip ?_
   simp only[thn,blk]
   refine hN1 _ ?_
   try clear hN1 N1
   refine AW.regionL envOk ?_
   simp-dsimp-implicitDefEqProofs (maxSteps:=800000) (disch:=omega) only[go_sem,undef,prs,prsP,w64,vls,vi]
   refine⟨(m+7+5+5+3,K++[u],exN (pc os pw cj) q u,f'),?_,by intro d cs hd;simp only[upd,noH,List.map_append,List.map_cons,List.map_nil,vls]at hd ⊢;grind,?_,?_⟩
   ·simp(disch:=omega) [wks,wkA,sl,w64,ints,rows,cubes,prs,prsP,w64,vls,vi]<;>omega
   ·refine⟨⟨by first|omega|(simp only;omega)|(dsimp only;omega),by first|omega|(simp only;omega)|(dsimp only;omega),(by first|omega|(simp;omega)),(by first|omega|(dsimp only;omega))⟩,hnxt.1,?_⟩
    rw[←hC,he]
    simp
   ·first|omega|(simp only;omega)
end
end Go.Proofs.YtnlfbimjcabgiaaGreat
namespace Go.Proofs.YtnlfbimjcabgiaaGreat
open Nat (reduceAdd reduceSub reduceGT reduceEqDiff reduceMul)
theorem AW.freezeO {P:Program} {c:Code} {s:St} {K:Exit→St→Prop} (n k:Nat) (o:Option Nat) (X:List V) (hk:s.t[k]? =some (oA o X.length)) (hH:s.H=oH noH o (X.map (vi n))) (h0:o=none→X=[])
    (hs:AW P c ⟨s.t.set k (vls n X),noH,s.nx⟩ K):AW P c s K:=by
  refine AW.fz (s':=⟨s.t.set k (vls n X),noH,s.nx⟩) ⟨fzs_set hk ?_,fun _ _ h=>(by cases h),Nat.le_refl _⟩ hs
  cases o with
  |none=>rw[h0 rfl];exact .nl
  | some id=>
    refine .h id 0 X.length (X.map (vi n)) _ (by rw[hH];exact upd_same _ _ _) rfl (by simp) (by simp) (fun k x y h1 h2=> ?_)
    rw[Nat.zero_add,h2]at h1;cases h1;exact .refl _
theorem CatP.fz {nx nx' n:Nat} {H H':HP} {r:AV} {X:List V} {zs:List AV} (h:CatP nx H zs nx' H' r) (hz:zs=X.map (vi n)):Fz H' noH r (vls n X):=by
  obtain⟨h1,h2,⟨h3,rfl⟩|⟨id,cs,h3,h4,rfl,h6,h7⟩⟩:=h
  · have:X=[]:=by rw[h3]at hz;exact List.map_eq_nil_iff.1 hz.symm
    subst this
    exact .nl
  · have hl:zs.length=X.length:=by rw[hz,List.length_map]
    have hcl:zs.length≤cs.length:=by
      have:=congrArg List.length h7
      rw[List.length_take]at this;omega
    unfold vls
    rw[hl]at h7 hcl ⊢
    refine .h id 0 X.length cs _ h6 rfl (by omega) (by simp) (fun k x y h8 h9=> ?_)
    rw[hz]at h7
    have:y=x:=by
      have hk:k<X.length:=by
        have:=(List.getElem?_eq_some_iff.1 h9).1
        simpa using this
      rw[←h7,List.getElem?_take,if_pos hk]at h9
      rw[Nat.zero_add]at h8
      rw[h8]at h9
      exact(Option.some.inj h9).symm
    rw[this]
    exact .refl _
theorem Sls.vls {n nx:Nat} {H:HP} {X:List V}:Sls H nx (Go.Proofs.YtnlfbimjcabgiaaGreat.vls n X) (X.map (vi n)):=
  ⟨fun z hz=>by obtain⟨a,_,rfl⟩:=List.mem_map.1 hz;rfl,.inl (by simp[Go.Proofs.YtnlfbimjcabgiaaGreat.vls])⟩
theorem Sls.two {n nx:Nat} {H:HP} {X Y:List V}:∀i,i<[X.map (vi n),Y.map (vi n)].length→Sls H nx ([Go.Proofs.YtnlfbimjcabgiaaGreat.vls n X,Go.Proofs.YtnlfbimjcabgiaaGreat.vls n Y].getD i .j) ([X.map (vi n),Y.map (vi n)].getD i []):=fun i hi=>
  match i,hi with
  |0,_=> .vls
  |1,_=> .vls
section
variable (os:List Int) (pw:List (List Int)) (cj:List (List (List Int)))
set_option maxRecDepth 20000 in
set_option maxHeartbeats 1000000 in
theorem impl_commutatorSubgroup_n (h:presOk os pw cj) (hc:Con (pc os pw cj) 0) (us vs:List V) (hl:us.length≤6) (hwl:vs.length≤6) (hu:∀x∈us,T (pc os pw cj) 0 x) (hw:∀x∈vs,T (pc os pw cj) 0 x) (nx:Nat):AC Tryz.prog 80 nx noH [prsP os pw cj,vls os.length us,vls os.length vs] (fun nx' H' r=>OwZ os.length nx nx' noH H' r (cmL (pc os pw cj) us vs)):=by
 have hn6:=h.1.1
 have hv:=h.val
 refine AC.introx envOk Tryz.func80 rfl (by kernel_rfl) Tryz.ntmps80 Tryz.results80 (fun hfr=> ?_)
 refine AW.sr envOk (fun N hN=> ?_)
 simp-dsimp-implicitDefEqProofs (maxSteps:=800000) (disch:=omega) only[go_sem,undef,prsP,vls,vi,w64]
 refine hN _ ?_
 try clear hN N
 refine AW.sr envOk (fun N hN=> ?_)
 simp-dsimp-implicitDefEqProofs (maxSteps:=800000) (disch:=omega) only[go_sem,undef,prsP,vls,vi,w64]
 refine hN _ ?_
 try clear hN N
 refine AW.seq (fun N1 hN1=> ?_)
 refine AW.sr envOk (fun N hN=> ?_)
 simp-dsimp-implicitDefEqProofs (maxSteps:=800000) (disch:=omega) only[go_sem,undef,prsP,vls,vi,w64]
 refine hN _ ?_
 try clear hN N
 refine AW.block ?_
 refine AW.loopN (α:=Nat×Option Nat×List V) (fun x=>sl 40 [(0,prsP os pw cj),(1,vls os.length us),(2,vls os.length vs),(7,oA x.2.1 x.2.2.length),(12,vls os.length us),(13,.i .i64 us.length),(14,.i .i64 x.1)]) (fun x=>oH noH x.2.1 (x.2.2.map (vi os.length))) (fun x m=>(x.1≤us.length∧nx≤m)∧(x.2.1=none→x.2.2=[])∧(∀id,x.2.1=some id→nx≤id∧id<m)∧x.2.2=coL (pc os pw cj) (us.take x.1) vs) (fun x=>us.length-x.1) ((0,none,[])) ?_ ?_ (fun _ _ h=>h) ?_
 ·exact⟨⟨by simp,by first|omega|(simp only;omega)|(dsimp only;omega)⟩,fun _=>rfl,by simp,by simp[coL]⟩
 ·simp[wks,wkA,sl,prsP,ints,rows,cubes,vls,vi,oA]
 ·skip
  rintro⟨i,o,K⟩ m2 ⟨⟨hi,hm2⟩,h0,hid,hK⟩
  dsimp only at hi hm2 h0 hid hK ⊢
  refine AW.sr envOk (fun N hN=> ?_)
  simp-dsimp-implicitDefEqProofs (maxSteps:=800000) (disch:=omega) only[go_sem,undef,prsP,vls,vi,w64]
  refine hN _ ?_
  try clear hN N
  refine AW.seq (fun N2 hN2=> ?_)
  refine AW.cond rfl (fun h1=> ?_) (fun h1=> ?_)
  ·try simp only[cn]at h1
   obtain⟨b,hbe⟩:∃b,us.getD i z0=b:=⟨_,rfl⟩
   have hbT:T (pc os pw cj) 0 b:=by rw[←hbe];exact hu _ (mem_getD (by omega))
   have hcj1:=coL_step (P:=pc os pw cj) (vs:=vs) (show i<us.length by omega) hbe
   have hcl:=coL_len (P:=pc os pw cj) (us:=us.take i) (vs:=vs)
   have hcb:(us.take i).length*vs.length≤6*6:=Nat.mul_le_mul (by rw[List.length_take];omega) hwl
   refine AW.skip ?_
   simp only[thn,blk]
   refine hN2 _ ?_
   try clear hN2 N2
   refine AW.seq (fun N3 hN3=> ?_)
   refine AW.block ?_
   refine AW.sr envOk (fun N hN=> ?_)
   simp-dsimp-implicitDefEqProofs (maxSteps:=800000) (disch:=omega) only[go_sem,undef,prsP,vls,vi,w64,hbe]
   refine hN _ ?_
   try clear hN N
   refine AW.sr envOk (fun N hN=> ?_)
   simp-dsimp-implicitDefEqProofs (maxSteps:=800000) (disch:=omega) only[go_sem,undef,prsP,vls,vi,w64]
   refine hN _ ?_
   try clear hN N
   refine AW.block ?_
   refine AW.loopN (α:=Nat×Option Nat×List V) (fun x=>sl 40 [(0,prsP os pw cj),(1,vls os.length us),(2,vls os.length vs),(7,oA x.2.1 x.2.2.length),(9,vi os.length b),(12,vls os.length us),(13,.i .i64 us.length),(14,.i .i64 i),(18,vls os.length vs),(19,.i .i64 vs.length),(20,.i .i64 x.1)]) (fun x=>oH noH x.2.1 (x.2.2.map (vi os.length))) (fun x m=>(x.1≤vs.length∧nx≤m)∧(x.2.1=none→x.2.2=[])∧(∀id,x.2.1=some id→nx≤id∧id<m)∧x.2.2=K++(vs.take x.1).map fun y=>cmI (pc os pw cj) b y) (fun x=>vs.length-x.1) ((0,o,K)) ?_ ?_ (fun _ _ h=>h) ?_
   ·exact⟨⟨by simp,by first|omega|(simp only;omega)|(dsimp only;omega)⟩,h0,fun id e=>(have:=hid id e;⟨this.1,by first|omega|(simp only;omega)|(dsimp only;omega)⟩),by simp⟩
   ·simp[wks,wkA,sl,prsP,ints,rows,cubes,vls,vi]
   ·skip
    rintro⟨j,(_|id),K2⟩ m3 ⟨⟨hj,hm3⟩,h02,hid2,hK2⟩
    ·skip
     simp-dsimp-implicitDefEqProofs (maxSteps:=800000) (disch:=omega) only[go_sem,undef]
     dsimp only[oA,oH]at hj hm3 h02 hid2 hK2 ⊢
     have hz2:=h02 rfl
     refine AW.sr envOk (fun N hN=> ?_)
     simp-dsimp-implicitDefEqProofs (maxSteps:=800000) (disch:=omega) only[go_sem,undef,prsP,vls,vi,w64]
     refine hN _ ?_
     try clear hN N
     refine AW.seq (fun N4 hN4=> ?_)
     refine AW.cond rfl (fun h2=> ?_) (fun h2=> ?_)
     ·try simp only[cn]at h2
      have hms:=map_step (f:=fun y=>cmI (pc os pw cj) b y) (show j<vs.length by omega) rfl
      have hyT:=hw _ (mem_getD (show j<vs.length by omega))
      refine AW.skip ?_
      simp only[thn,blk]
      refine hN4 _ ?_
      try clear hN4 N4
      refine AW.seq (fun N5 hN5=> ?_)
      refine AW.block ?_
      refine AW.sr envOk (fun N hN=> ?_)
      simp-dsimp-implicitDefEqProofs (maxSteps:=800000) (disch:=omega) only[go_sem,undef,prsP,vls,vi,w64]
      refine hN _ ?_
      try clear hN N
      refine AW.regionL envOk ?_
      simp-dsimp-implicitDefEqProofs (maxSteps:=800000) (disch:=omega) only[go_sem,undef,prsP,vls,vi,w64]
      refine AC.pure (.of (impl_commutator_ok os pw cj h hc b _ hbT hyT)) ?_
      try simp-dsimp-implicitDefEqProofs (maxSteps:=800000) (disch:=omega) only[go_sem,undef,prsP,vls,vi,w64]
      refine hN5 _ ?_
      try clear hN5 N5
      refine AW.regionL envOk ?_
      simp-dsimp-implicitDefEqProofs (maxSteps:=800000) (disch:=omega) only[go_sem,undef,prsP,vls,vi,w64]
      refine⟨(j+1,some (m3+1+3+6),K2++[cmI (pc os pw cj) b (vs.getD j z0)]),?_,by rw[hz2];intro d cs hd;simp only[oH,upd,noH,List.map_append,List.map_cons,List.map_nil,List.nil_append,vi]at hd ⊢;grind,?_,?_⟩
      ·simp(disch:=omega) [wks,wkA,sl,oA,w64,ints,rows,cubes,prsP,vls,vi]<;>omega
      ·exact⟨⟨by first|omega|(simp only;omega)|(dsimp only;omega),by first|omega|(simp only;omega)|(dsimp only;omega)⟩,by simp,by simp;omega,by (try simp only[]);rw[hms,hK2,List.append_assoc]⟩
      ·first|omega|(simp only;omega)
     ·try simp only[cn]at h2
      have hjn:j=vs.length:=by omega
      subst hjn
      refine AW.exit ?_
      simp only[thn,blk,if_true]
      refine hN3 _ ?_
      try clear hN3 N3
      refine AW.regionL envOk ?_
      simp-dsimp-implicitDefEqProofs (maxSteps:=800000) (disch:=omega) only[go_sem,undef,prsP,vls,vi,w64]
      refine⟨(i+1,none,K2),?_,fun _ _ h=>h,?_,?_⟩
      ·simp(disch:=omega) [wks,wkA,sl,oA,w64,ints,rows,cubes,prsP,vls,vi]<;>omega
      ·exact⟨⟨by first|omega|(simp only;omega)|(dsimp only;omega),by first|omega|(simp only;omega)|(dsimp only;omega)⟩,fun _=>hz2,by simp,by (try simp only[]);rw[hK2,hK,hcj1,List.take_length]⟩
      ·first|omega|(simp only;omega)
    ·skip
     simp-dsimp-implicitDefEqProofs (maxSteps:=800000) (disch:=omega) only[go_sem,undef]
     dsimp only[oA,oH]at hj hm3 h02 hid2 hK2 ⊢
     have hidm:=hid2 id rfl
     have hKl:K2.length≤1000:=by
      rw[hK2,List.length_append,List.length_map,List.length_take,hK,hcl];omega
     refine AW.sr envOk (fun N hN=> ?_)
     simp-dsimp-implicitDefEqProofs (maxSteps:=800000) (disch:=omega) only[go_sem,undef,prsP,vls,vi,w64]
     refine hN _ ?_
     try clear hN N
     refine AW.seq (fun N6 hN6=> ?_)
     refine AW.cond rfl (fun h3=> ?_) (fun h3=> ?_)
     ·try simp only[cn]at h3
      have hms:=map_step (f:=fun y=>cmI (pc os pw cj) b y) (show j<vs.length by omega) rfl
      have hyT:=hw _ (mem_getD (show j<vs.length by omega))
      refine AW.skip ?_
      simp only[thn,blk]
      refine hN6 _ ?_
      try clear hN6 N6
      refine AW.seq (fun N7 hN7=> ?_)
      refine AW.block ?_
      refine AW.sr envOk (fun N hN=> ?_)
      simp-dsimp-implicitDefEqProofs (maxSteps:=800000) (disch:=omega) only[go_sem,undef,prsP,vls,vi,w64]
      refine hN _ ?_
      try clear hN N
      refine AW.regionL envOk ?_
      simp-dsimp-implicitDefEqProofs (maxSteps:=800000) (disch:=omega) only[go_sem,undef,prsP,vls,vi,w64]
      refine AC.pure (.of (impl_commutator_ok os pw cj h hc b _ hbT hyT)) ?_
      try simp-dsimp-implicitDefEqProofs (maxSteps:=800000) (disch:=omega) only[go_sem,undef,prsP,vls,vi,w64]
      refine hN7 _ ?_
      try clear hN7 N7
      refine AW.regionL envOk ?_
      simp-dsimp-implicitDefEqProofs (maxSteps:=800000) (disch:=omega) only[go_sem,undef,prsP,vls,vi,w64]
      refine⟨(j+1,some (m3+1+3+6),K2++[cmI (pc os pw cj) b (vs.getD j z0)]),?_,by intro d cs hd;simp only[oH,upd,noH,tk_map,List.map_append,List.map_cons,List.map_nil,vi]at hd ⊢;grind,?_,?_⟩
      ·simp(disch:=omega) [wks,wkA,sl,oA,w64,ints,rows,cubes,prsP,vls,vi]<;>omega
      ·exact⟨⟨by first|omega|(simp only;omega)|(dsimp only;omega),by first|omega|(simp only;omega)|(dsimp only;omega)⟩,by simp,by simp;omega,by (try simp only[]);rw[hms,hK2,List.append_assoc]⟩
      ·first|omega|(simp only;omega)
     ·try simp only[cn]at h3
      have hjn:j=vs.length:=by omega
      subst hjn
      refine AW.exit ?_
      simp only[thn,blk,if_true]
      refine hN3 _ ?_
      try clear hN3 N3
      refine AW.regionL envOk ?_
      simp-dsimp-implicitDefEqProofs (maxSteps:=800000) (disch:=omega) only[go_sem,undef,prsP,vls,vi,w64]
      refine⟨(i+1,some id,K2),?_,fun _ _ h=>h,?_,?_⟩
      ·simp(disch:=omega) [wks,wkA,sl,oA,w64,ints,rows,cubes,prsP,vls,vi]<;>omega
      ·exact⟨⟨by first|omega|(simp only;omega)|(dsimp only;omega),by first|omega|(simp only;omega)|(dsimp only;omega)⟩,by simp,by simp;omega,by (try simp only[]);rw[hK2,hK,hcj1,List.take_length]⟩
      ·first|omega|(simp only;omega)
  ·try simp only[cn]at h1
   refine AW.exit ?_
   simp only[thn,blk,if_true]
   refine hN1 _ ?_
   try clear hN1 N1
   obtain rfl:i=us.length:=by omega
   rw[List.take_length]at hK
   have hcl:=coL_len (P:=pc os pw cj) (us:=us) (vs:=vs)
   have hcb:us.length*vs.length≤6*6:=Nat.mul_le_mul hl hwl
   have hKl:K.length≤1000:=by rw[hK,hcl];omega
   have hKT:∀x∈K,T (pc os pw cj) 0 x:=by rw[hK];exact coL_T hv hc hu hw
   have hclo:=fun n9=>impl_closure_n os pw cj h hc K (us++vs) hKl (by rw[List.length_append];omega) hKT (apL_T hu hw) n9
   have hfin:ccL (pc os pw cj) K (us++vs)=cmL (pc os pw cj) us vs:=by rw[hK];rfl
   rw[hfin]at hclo
   refine AW.freezeO os.length 7 o K rfl rfl h0 ?_
   simp-dsimp-implicitDefEqProofs (maxSteps:=800000) (disch:=omega) only[go_sem,undef]
   refine AW.sr envOk (fun N hN=> ?_)
   simp-dsimp-implicitDefEqProofs (maxSteps:=800000) (disch:=omega) only[go_sem,undef,prsP,vls,vi,w64]
   refine(slices_Concat_rows [vls os.length us,vls os.length vs] [us.map (vi os.length),vs.map (vi os.length)] rfl (by simp) _ _ _ (upd_same _ _ _) (by first|omega|(simp only;omega)|(dsimp only;omega)) .two (by simp;omega)).mono2 ?_
   rintro m5 H5 r5 hm5 hcat
   have hfz:=hcat.fz (n:=os.length) (X:=us++vs) (by simp)
   try simp-dsimp-implicitDefEqProofs (maxSteps:=800000) (disch:=omega) only[go_sem,undef,prsP,vls,vi,w64]
   refine AC.fz (H':=noH) (ts:=[prsP os pw cj,vls os.length K,vls os.length (us++vs)]) (fun _ _ h=>by cases h) ?_ ((hclo _).mono2 ?_)
   ·exact⟨.refl _,.refl _,hfz,trivial⟩
   rintro m9 H9 r9 hm9 (⟨id9,rfl,hi9,hj9,rfl⟩|⟨he9,rfl,rfl⟩)
   ·skip
    try simp-dsimp-implicitDefEqProofs (maxSteps:=800000) (disch:=omega) only[go_sem,undef,prsP,vls,vi,w64]
    refine hN _ ?_
    try clear hN N
    refine AW.ret ?_
    simp-dsimp-implicitDefEqProofs (maxSteps:=800000) (disch:=omega) only[go_sem,undef]
    exact⟨_,Le.refl _,.inl ⟨id9,rfl,by omega,by omega,rfl⟩⟩
   ·skip
    try simp-dsimp-implicitDefEqProofs (maxSteps:=800000) (disch:=omega) only[go_sem,undef,prsP,vls,vi,w64]
    refine hN _ ?_
    try clear hN N
    refine AW.ret ?_
    simp-dsimp-implicitDefEqProofs (maxSteps:=800000) (disch:=omega) only[go_sem,undef]
    exact⟨_,Le.refl _,.inr ⟨he9,rfl,rfl⟩⟩
end
end Go.Proofs.YtnlfbimjcabgiaaGreat
