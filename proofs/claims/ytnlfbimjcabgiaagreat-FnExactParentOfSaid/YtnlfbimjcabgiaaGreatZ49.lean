import Derived.Test.YtnlfbimjcabgiaaGreatZ47
import Derived.Test.YtnlfbimjcabgiaaGreatZ48
set_option linter.unusedVariables false
set_option linter.unusedSimpArgs false
namespace Go.Proofs.YtnlfbimjcabgiaaGreat
open Nat (reduceAdd reduceSub reduceGT reduceEqDiff reduceMul)
theorem prsQ_nr (os:List Int) (pw:List (List Int)) (cj:List (List (List Int))):NR (prs os pw cj):= .g _ (fun k x hk=>by
  match k,hk with
  |0,hk=>cases hk;exact ints_nr _
  |1,hk=>cases hk;exact .v _ _ (fun k y hk=>by obtain⟨z,_,rfl⟩:=List.mem_map.1 (List.mem_of_getElem? hk);exact ints_nr _)
  | 2,hk=>cases hk;exact .v _ _ (fun k y hk=>by
    obtain⟨z,_,rfl⟩:=List.mem_map.1 (List.mem_of_getElem? hk)
    exact .v _ _ (fun k y hk=>by obtain⟨z,_,rfl⟩:=List.mem_map.1 (List.mem_of_getElem? hk);exact ints_nr _))
  |k+3,hk=>simp at hk)
theorem Vw.prs {H:HP} {a b c:AV} {os:List Int} {pw:List (List Int)} {cj:List (List (List Int))} (h1:Vw H a (ints os)) (h2:Vw H b (rows pw)) (h3:Vw H c (cubes cj)):Vw H (.g [a,b,c]) (Go.Proofs.YtnlfbimjcabgiaaGreat.prs os pw cj):=by
  refine .g _ _ rfl (fun k x y hx hy=> ?_)
  match k,hx,hy with
  |0,hx,hy=>cases hx;cases hy;exact h1
  |1,hx,hy=>cases hx;cases hy;exact h2
  |2,hx,hy=>cases hx;cases hy;exact h3
  |k+3,hx,hy=>simp at hx
theorem vw_oG {H:HP} {o:Option Nat} {n:Nat} {cs:List AV} (h0:o=none→n=0) (hn:n=cs.length) (hH:∀id,o=some id→H id=some cs):Vw H (oA o n) (.v n cs):=by
  cases o with
  | none=>
    have h1:n=0:=h0 rfl
    have h2:cs=[]:=List.length_eq_zero_iff.1 (by omega)
    subst h1;subst h2;exact .nl
  |some id=>exact Vw.blk (hH id rfl) hn
theorem oH_lt {o:Option Nat} {cs ds:List AV} {a m i:Nat} (h:∀id,o=some id→a≤id∧id<m) (hi:oH noH o cs i=some ds):a≤i∧i<m:=by
  cases o with
  |none=>cases hi
  | some id=>
    by_cases e:i=id
    · rw[e];exact h id rfl
    · simp only[oH,upd,noH,e,if_false]at hi;cases hi
def qH (c a:Nat) (o:Option Nat) (F:Nat) (oL:List AV) (k:Nat) (pL cL:List AV):Option (Nat×Nat)→HP
  |none=>upd (upd (oH noH o oL) a (some [.nl,.nl,.nl])) c (some [oA o F,.nl,.nl])
  |some q=>upd (upd (upd (upd (oH noH o oL) q.1 (some pL)) q.2 (some cL)) a (some [.nl,.nl,.nl])) c (some [oA o F,.h q.1 0 k,.h q.2 0 k])
theorem qH_ok {c a F k y z:Nat} {o:Option Nat} {oL pL cL:List AV} {s:HP} (h1:∀i cs,oH noH o oL i=some cs→s i=some cs) (h2:s y=some pL) (h3:s z=some cL) (h4:s a=some [.nl,.nl,.nl]) (h5:s c=some [oA o F,.h y 0 k,.h z 0 k]):∀i cs,qH c a o F oL k pL cL (some (y,z)) i=some cs→s i=some cs:=by
  intro i cs hi
  simp only[qH,upd]at hi
  split at hi
  · next e=>rw[e,h5];exact hi
  · split at hi
    · next e=>rw[e,h4];exact hi
    · split at hi
      · next e=>rw[e,h3];exact hi
      · split at hi
        · next e=>rw[e,h2];exact hi
        · exact h1 i cs hi
theorem lp0 {G G1:HP} {w:Nat} {l:List AV} (h:G w=some []) (h1:∀i,i<w→G1 i=G i) (h2:∀i cs,G1 i=some cs→i<w):∀i cs,upd G1 w (some (l.take 0)) i=some cs→G i=some cs:=by
  intro i cs hh
  rw[List.take_zero]at hh
  simp only[upd]at hh
  split at hh
  · next e=>rw[e,h];exact hh
  · rw[←h1 i (h2 i cs hh)];exact hh
theorem vw_cb {H:HP} {id:Nat} {xs:List (List (List Int))} {n:Nat} (hn:n=xs.length) (h:H id=some (xs.map Go.Proofs.YtnlfbimjcabgiaaGreat.rows)):Vw H (.h id 0 n) (cubes xs):=by
  subst hn
  exact Vw.blk h (by simp)
section
variable (os:List Int) (pw:List (List Int)) (cj:List (List (List Int)))
set_option maxRecDepth 20000 in
set_option maxHeartbeats 4000000 in
theorem spec_l15Quo_v (h:presOk os pw cj) (hc:Con (pc os pw cj) 0) {S:V→Prop} (hS:Sbg (T (pc os pw cj) 0) (M (pc os pw cj) 0) S) (us:List V) (hcn:Cnl (pc os pw cj) S us):ACp Tryz.prog 39 [prs os pw cj,vls os.length us] (prs (qoO os us) (qoP (pc os pw cj) us) (qoC (pc os pw cj) us)):=by
 have hn6:=h.1.1
 have hv:=h.val
 have hn0:(pc os pw cj).n=os.length:=rfl
 have hln:=hcn.len
 rw[hn0]at hln
 have hld:∀k,k<us.length→ldV os.length (us.getD k z0)<os.length:=fun k hk=>(hcn.at (by rw[List.getD_eq_getElem?_getD,List.getElem?_eq_getElem hk];exact List.getElem_mem _)).1
 have hfi:=frI_len (n:=os.length) (u:=us)
 have hfl:=frU_len (n:=os.length) (u:=us) os.length
 have hfg:∀i,i<(frU os.length us os.length).length→(frI os.length us).getD i 0=((frU os.length us os.length).getD i 0:Int)∧(frU os.length us os.length).getD i 0<os.length:=fun i hi=>⟨frI_get hi,frU_lt hi⟩
 obtain⟨fr,hfr0⟩:∃f,frU os.length us os.length=f:=⟨_,rfl⟩
 rw[hfr0]at hfi hfl hfg
 have hoL:((qoO os us).map (AV.i .i64)).length=fr.length:=by rw[List.length_map,qoO,List.length_map,hfr0]
 have hpL:((qoP (pc os pw cj) us).map ints).length=fr.length:=by rw[List.length_map,qoP,List.length_map,hn0,hfr0]
 have hcL:((qoC (pc os pw cj) us).map rows).length=fr.length:=by rw[List.length_map,qoC,List.length_map,List.length_range,hn0,hfr0]
 have hoG:∀k,k<fr.length→((qoO os us).map (AV.i .i64)).getD k .j= .i .i64 (os.getD (fr.getD k 0) 0):=fun k hk=>by simp[qoO,hfr0,hk]
 have hpG:∀k,k<fr.length→((qoP (pc os pw cj) us).map ints).getD k .j=ints (qoPr (pc os pw cj) us (fr.getD k 0)):=fun k hk=>by simp[qoP,hn0,hfr0,hk]
 have hcG:∀k,k<fr.length→((qoC (pc os pw cj) us).map rows).getD k .j=rows (qoCl (pc os pw cj) us k):=fun k hk=>by simp[qoC,hn0,hfr0,hk]
 have hcl:∀k,(qoCl (pc os pw cj) us k).length=fr.length-(k+1):=fun k=>by rw[qoCl,List.length_map,List.length_drop,hn0,hfr0]
 have hce:∀k j,k+1+j<fr.length→((qoCl (pc os pw cj) us k).map ints).getD j .j=ints (qoCr (pc os pw cj) us (fr.getD k 0) (fr.getD (k+1+j) 0)):=fun k j hj=>by
  have h1:j<fr.length-(k+1):=by omega
  simp[qoCl,hn0,hfr0,h1,hj,List.getElem?_drop]
 refine ACp.introV envOk Tryz.func39 rfl (by kernel_rfl) Tryz.ntmps39 Tryz.results39 ((prsQ_nr _ _ _)) (fun nx=> ?_)
 refine AW.sr envOk (fun N hN=> ?_)
 simp-dsimp-implicitDefEqProofs (maxSteps:=800000) (disch:=omega) only[go_sem,undef,prsP,prs,vls,w64,vi,ints]
 refine hN _ ?_
 try clear hN N
 refine AW.freezeQ 2 nx _ rfl ((upd_ne _ _ (by omega)).trans (upd_same _ _ _)) ?_
 simp-dsimp-implicitDefEqProofs (maxSteps:=800000) (disch:=omega) only[go_sem,undef]
 refine AW.sr envOk (fun N hN=> ?_)
 simp-dsimp-implicitDefEqProofs (maxSteps:=800000) (disch:=omega) only[go_sem,undef,prsP,prs,vls,w64,vi,ints]
 refine hN _ ?_
 try clear hN N
 refine AW.sr envOk (fun N hN=> ?_)
 simp-dsimp-implicitDefEqProofs (maxSteps:=800000) (disch:=omega) only[go_sem,undef,prsP,prs,vls,w64,vi,ints]
 refine AC.pure (.of (spec_l14Free_v os pw cj hn6 us (by omega) hld)) ?_
 try simp-dsimp-implicitDefEqProofs (maxSteps:=800000) (disch:=omega) only[go_sem,undef,prsP,prs,vls,w64,vi,ints]
 refine hN _ ?_
 try clear hN N
 refine AW.sr envOk (fun N hN=> ?_)
 simp-dsimp-implicitDefEqProofs (maxSteps:=800000) (disch:=omega) only[go_sem,undef,prsP,prs,vls,w64,vi,ints]
 refine hN _ ?_
 try clear hN N
 refine AW.seq (fun N1 hN1=> ?_)
 refine AW.sr envOk (fun N hN=> ?_)
 simp-dsimp-implicitDefEqProofs (maxSteps:=800000) (disch:=omega) only[go_sem,undef,prsP,prs,vls,w64,vi,ints]
 refine hN _ ?_
 try clear hN N
 refine AW.block ?_
 refine AW.loopN (α:=Nat×Option Nat) (fun x=>sl 101 [(1,vls os.length us),(2,prsP os pw cj),(4,.q (nx+1) 0),(5,.i .i64 os.length),(6,ints (frI os.length us)),(7,.q (nx+2+4+4+1) 0),(8,.i .i64 x.1)]) (fun x=>upd (upd (oH noH x.2 (((qoO os us).map (.i .i64)).take x.1)) (nx+1) (some [.nl,.nl,.nl])) (nx+2+4+4+1) (some [oA x.2 x.1,.nl,.nl])) (fun x m=>(x.1≤fr.length∧nx+14≤m)∧(x.2=none→x.1=0)∧(∀id,x.2=some id→nx+14≤id∧id<m)) (fun x=>fr.length-x.1) ((0,none)) ?_ ?_ (by intro d cs hd;simp only[oH,oA,upd,noH]at hd ⊢;grind) ?_
 ·exact⟨⟨by simp,by first|omega|(simp only;omega)|(dsimp only;omega)⟩,fun _=>rfl,by simp⟩
 ·simp(disch:=omega) [wks,wkA,sl,prsP,ints,rows,cubes,vls]<;>omega
 ·skip
  rintro⟨k,o⟩ m ⟨⟨hk,hm⟩,h0,hid⟩
  simp-dsimp-implicitDefEqProofs (maxSteps:=800000) (disch:=omega) only[go_sem,undef]
  dsimp only at hk hm h0 hid ⊢
  refine AW.seq (fun N2 hN2=> ?_)
  refine AW.sr envOk (fun N hN=> ?_)
  simp-dsimp-implicitDefEqProofs (maxSteps:=800000) (disch:=omega) only[go_sem,undef,prsP,prs,vls,w64,vi,ints]
  refine hN _ ?_
  try clear hN N
  refine AW.cond rfl (fun h1=> ?_) (fun h1=> ?_)
  ·try simp only[cn]at h1
   have hkl:k<fr.length:=by omega
   obtain⟨d,hd⟩:∃d,fr.getD k 0=d:=⟨_,rfl⟩
   obtain⟨hfk,hdn⟩:=hfg k hkl
   rw[hd]at hfk hdn
   have htk1:=tk1 (L:=(qoO os us).map (AV.i .i64)) (k:=k) (by omega) (hoG k hkl)
   rw[hd]at htk1
   have hmn:min k (qoO os us).length=k:=by rw[List.length_map]at hoL;omega
   refine AW.skip ?_
   simp only[thn,blk]
   refine hN2 _ ?_
   try clear hN2 N2
   refine AW.seq (fun N3 hN3=> ?_)
   refine AW.block ?_
   refine AW.drawL envOk (by kernel_rfl) 11 (by kernel_rfl) ?_
   simp-dsimp-implicitDefEqProofs (maxSteps:=800000) (disch:=omega) only[hr_nil,hr_one,hr_if,List.take_succ_cons,List.take_zero,List.drop_succ_cons,List.drop_zero,List.take_nil,List.drop_nil,go_sem,undef,prsP,prs,vls,w64,vi,ints,ints,gd_i,hfk]
   rcases o with _|id
   ·skip
    dsimp only[oA,oH]at h0 hid ⊢
    have hk0:k=0:=h0 rfl
    have ht0:List.take k ((qoO os us).map (AV.i .i64))=[]:=by rw[hk0];exact List.take_zero
    rw[ht0,List.nil_append]at htk1
    try simp-dsimp-implicitDefEqProofs (maxSteps:=800000) (disch:=omega) only[go_sem,undef,]
    refine hN3 _ ?_
    try clear hN3 N3
    refine AW.regionL envOk ?_
    simp-dsimp-implicitDefEqProofs (maxSteps:=800000) (disch:=omega) only[go_sem,undef,prsP,prs,vls,w64,vi,ints]
    refine⟨(k+1,some (m+4+11)),?_,by dsimp only;rw[htk1];intro d cs hd;simp only[oH,oA,upd,noH]at hd ⊢;grind,?_,?_⟩
    ·simp(disch:=omega) [wks,wkA,sl,w64,ints,rows,cubes,prsP,prs,vls,w64,vi,ints]<;>omega
    ·exact⟨⟨by omega,by first|omega|(simp only;omega)|(dsimp only;omega)⟩,by simp,by simp;omega⟩
    ·first|omega|(simp only;omega)
   ·skip
    dsimp only[oA,oH]at h0 hid ⊢
    have hidm:=hid id rfl
    try simp-dsimp-implicitDefEqProofs (maxSteps:=800000) (disch:=omega) only[go_sem,undef,hmn,Nat.le_refl]
    refine hN3 _ ?_
    try clear hN3 N3
    refine AW.regionL envOk ?_
    simp-dsimp-implicitDefEqProofs (maxSteps:=800000) (disch:=omega) only[go_sem,undef,prsP,prs,vls,w64,vi,ints]
    refine⟨(k+1,some (m+4+11)),?_,by dsimp only;rw[htk1];intro d cs hd;simp only[oH,oA,upd,noH]at hd ⊢;grind,?_,?_⟩
    ·simp(disch:=omega) [wks,wkA,sl,w64,ints,rows,cubes,prsP,prs,vls,w64,vi,ints]<;>omega
    ·exact⟨⟨by omega,by first|omega|(simp only;omega)|(dsimp only;omega)⟩,by simp,by simp;omega⟩
    ·first|omega|(simp only;omega)
  ·try simp only[cn]at h1
   obtain rfl:k=fr.length:=by omega
   have hone:one (oA o fr.length)=true:=by cases o<;>rfl
   have v1:∀H:HP,(∀i cs,oH noH o ((qoO os us).map (AV.i .i64)) i=some cs→H i=some cs)→Vw H (oA o fr.length) (ints (qoO os us)):=fun H hH=>by
    have:=vw_oG (H:=H) (o:=o) (n:=fr.length) (cs:=((qoO os us).map (AV.i .i64))) h0 hoL.symm (fun id e=>hH id _ (by subst e;exact upd_same _ _ _))
    have e2:ints (qoO os us)= .v fr.length ((qoO os us).map (AV.i .i64)):=by unfold ints;rw[←hoL,List.length_map]
    rw[e2];exact this
   have htk:List.take fr.length ((qoO os us).map (AV.i .i64))=((qoO os us).map (AV.i .i64)):=List.take_of_length_le (by omega)
   refine AW.exit ?_
   simp only[thn,blk,if_true]
   refine hN1 _ ?_
   try clear hN1 N1
   refine AW.seq (fun N4 hN4=> ?_)
   refine AW.sr envOk (fun N hN=> ?_)
   simp-dsimp-implicitDefEqProofs (maxSteps:=800000) (disch:=omega) only[go_sem,undef,prsP,prs,vls,w64,vi,ints]
   refine hN _ ?_
   try clear hN N
   refine AW.block ?_
   rw[htk]
   obtain⟨b0,hb0⟩:∃b,m=b:=⟨_,rfl⟩
   refine AW.loopN (α:=Nat×Option (Nat×Nat)) (fun x=>sl 101 [(1,vls os.length us),(2,prsP os pw cj),(4,.q (nx+1) 0),(5,.i .i64 os.length),(6,ints (frI os.length us)),(7,.q (nx+2+4+4+1) 0),(9,.i .i64 x.1)]) (fun x=>qH (nx+2+4+4+1) (nx+1) o fr.length ((qoO os us).map (AV.i .i64)) x.1 (((qoP (pc os pw cj) us).map ints).take x.1) (((qoC (pc os pw cj) us).map rows).take x.1) x.2) (fun x m=>(x.1≤fr.length∧b0≤m)∧(x.2=none→x.1=0)∧(∀q,x.2=some q→(b0≤q.1∧q.1<m)∧(b0≤q.2∧q.2<m)∧q.1≠q.2)) (fun x=>fr.length-x.1) ((0,none)) ?_ ?_ (fun _ _ h=>h) ?_
   ·exact⟨⟨by simp,by first|omega|(simp only;omega)|(dsimp only;omega)⟩,fun _=>rfl,by simp⟩
   ·simp(disch:=omega) [wks,wkA,sl,prsP,ints,rows,cubes,vls]<;>omega
   ·skip
    rintro⟨k,(_|⟨y,z⟩)⟩ m2 ⟨⟨hk2,hm2⟩,h20,hq2⟩
    ·skip
     simp-dsimp-implicitDefEqProofs (maxSteps:=800000) (disch:=omega) only[go_sem,undef]
     dsimp only[qH]at hk2 hm2 h20 hq2 ⊢
     have hk0:k=0:=h20 rfl
     have hply:=hk2
     have hclz:=hk2
     have hkk:=hk0
     refine AW.seq (fun N5 hN5=> ?_)
     refine AW.sr envOk (fun N hN=> ?_)
     simp-dsimp-implicitDefEqProofs (maxSteps:=800000) (disch:=omega) only[go_sem,undef,prsP,prs,vls,w64,vi,ints]
     refine hN _ ?_
     try clear hN N
     refine AW.cond rfl (fun h2=> ?_) (fun h2=> ?_)
     ·try simp only[cn]at h2
      have hkl:k<fr.length:=by omega
      obtain⟨d,hd⟩:∃d,fr.getD k 0=d:=⟨_,rfl⟩
      obtain⟨hfk,hdn⟩:=hfg k hkl
      rw[hd]at hfk hdn
      have hpb:=pr4_bd (h.2.1 d hdn)
      have hdT:T (pc os pw cj) 0 (un d):=(unV_T hv hdn).1.mono hv (Nat.zero_le d)
      have hpj:ACp Tryz.prog 73 [prs os pw cj,vls os.length us,vi os.length (pwV (pc os pw cj) (un d) (os.getD d 0))] (ints (qoPr (pc os pw cj) us d)):=spec_l15Project_v os pw cj h hc hS us hcn _ (pwV_T hv hc hdT _)
      have hclk:=hcl k
      refine AW.skip ?_
      simp only[thn,blk]
      refine hN5 _ ?_
      try clear hN5 N5
      refine AW.seq (fun N6 hN6=> ?_)
      refine AW.block ?_
      refine AW.sr envOk (fun N hN=> ?_)
      simp-dsimp-implicitDefEqProofs (maxSteps:=800000) (disch:=omega) only[go_sem,undef,prsP,prs,vls,w64,vi,ints,ints,gd_i,hfk]
      refine AC.pure (.of (spec_l07Unit_ok os.length d (by omega) (by omega))) ?_
      try simp-dsimp-implicitDefEqProofs (maxSteps:=800000) (disch:=omega) only[go_sem,undef,prsP,prs,vls,w64,vi,ints]
      refine hN _ ?_
      try clear hN N
      refine AW.seq (fun N hN=> ?_)
      refine AW.drawL envOk (by kernel_rfl) 17 (by kernel_rfl) ?_
      simp-dsimp-implicitDefEqProofs (maxSteps:=800000) (disch:=omega) only[hr_nil,hr_one,hr_if,List.take_succ_cons,List.take_zero,List.drop_succ_cons,List.drop_zero,List.take_nil,List.drop_nil,go_sem,undef,prsP,prs,vls,w64,vi,ints,ints,gd_i,hfk,hply,Nat.le_refl]
      refine⟨_,.of (spec_l10Pow_ok (h:=h) (hc:=hc) (a:=un d) (ha:=hdT) (k:=os.getD d 0) (hk:=by omega)),?_⟩
      try simp-dsimp-implicitDefEqProofs (maxSteps:=800000) (disch:=omega) only[go_sem,undef,prsP,prs,vls,w64,vi,ints]
      refine⟨_,.of (hpj),?_⟩
      try simp-dsimp-implicitDefEqProofs (maxSteps:=800000) (disch:=omega) only[go_sem,undef,prsP,prs,vls,w64,vi,ints]
      refine hN _ ?_
      try clear hN N
      refine AW.sr envOk (fun N hN=> ?_)
      simp-dsimp-implicitDefEqProofs (maxSteps:=800000) (disch:=omega) only[go_sem,undef,prsP,prs,vls,w64,vi,ints]
      refine hN _ ?_
      try clear hN N
      refine AW.seq (fun N7 hN7=> ?_)
      refine AW.sr envOk (fun N hN=> ?_)
      simp-dsimp-implicitDefEqProofs (maxSteps:=800000) (disch:=omega) only[go_sem,undef,prsP,prs,vls,w64,vi,ints]
      refine hN _ ?_
      try clear hN N
      refine AW.block ?_
      refine AW.nameH (fun Gx hGx=> ?_)
      dsimp only at hGx
      have htkp:=tk1 (L:=((qoP (pc os pw cj) us).map ints)) (k:=k) (by rw[hpL];exact hkl) (hpG k hkl)
      have htkc:=tk1 (L:=((qoC (pc os pw cj) us).map rows)) (k:=k) (by rw[hcL];exact hkl) (hcG k hkl)
      rw[hd]at htkp
      have htp0:List.take k ((qoP (pc os pw cj) us).map ints)=[]:=by rw[hk0];exact List.take_zero
      have htc0:List.take k ((qoC (pc os pw cj) us).map rows)=[]:=by rw[hk0];exact List.take_zero
      rw[htp0,List.nil_append]at htkp
      rw[htc0,List.nil_append]at htkc
      obtain⟨G1,hG1⟩:∃g,lim (m2+31) Gx=g:=⟨_,rfl⟩
      have hlx:∀i,i<m2+31→G1 i=Gx i:=fun i hi=>by rw[←hG1];exact if_pos hi
      have hlt:∀i cs,G1 i=some cs→i<m2+31:=fun i cs hi=>by
       rw[←hG1]at hi
       by_cases e:i<m2+31
       ·exact e
       ·simp only[lim,e,if_false]at hi;cases hi
      have hG1z:=hk2
      have hG1c:G1 (nx+2+4+4+1)=some [oA o fr.length,.h (m2+4+7+17) 0 1,.nl]:=by rw[hlx _ (by omega),←hGx];simp(disch:=omega) only[upd_ne,upd_same]
      have hG1y:G1 (m2+4+7+17)=some (((qoP (pc os pw cj) us).map ints).take (k+1)):=by rw[hlx _ (by omega),←hGx];simp(disch:=omega) only[upd_ne,upd_same];rw[htkp];rfl
      have hG1a:G1 (nx+1)=some [.nl,.nl,.nl]:=by rw[hlx _ (by omega),←hGx];simp(disch:=omega) only[upd_ne,upd_same]
      have hGxw:Gx (m2+31)=some []:=by rw[←hGx];simp(disch:=omega) only[upd_ne,upd_same]
      have hG1o:∀i cs,oH noH o ((qoO os us).map (AV.i .i64)) i=some cs→G1 i=some cs:=fun i cs hi=>by
       have hb:=oH_lt hid hi
       rw[hlx _ (by omega),←hGx];simp(disch:=omega) only[upd_ne];exact hi
      refine AW.loopN (α:=Nat×Nat) (fun x=>sl 101 [(1,vls os.length us),(2,prsP os pw cj),(4,.q (nx+1) 0),(5,.i .i64 os.length),(6,ints (frI os.length us)),(7,.q (nx+2+4+4+1) 0),(9,.i .i64 k),(10,vi os.length (un d)),(11,.h x.2 0 x.1),(12,.i .i64 ((k+1+x.1:Nat):Int))]) (fun x=>upd G1 x.2 (some (((qoCl (pc os pw cj) us k).map ints).take x.1))) (fun x m=>(x.1≤fr.length-(k+1))∧(m2+31)≤x.2∧x.2<m) (fun x=>fr.length-(k+1)-x.1) ((0,(m2+31))) ?_ ?_ (lp0 hGxw hlx hlt) ?_
      ·exact⟨by simp,by first|omega|(simp only;omega)|(dsimp only;omega),by first|omega|(simp only;omega)|(dsimp only;omega)⟩
      ·simp(disch:=omega) [wks,wkA,sl,prsP,ints,rows,cubes,vls]<;>(repeat' apply And.intro)<;>first|omega|exact .inr rfl
      ·skip
       rintro⟨j,w⟩ m3 ⟨hj,hw1,hw2⟩
       simp-dsimp-implicitDefEqProofs (maxSteps:=800000) (disch:=omega) only[go_sem,undef]
       dsimp only at hj hw1 hw2 ⊢
       refine AW.seq (fun N8 hN8=> ?_)
       refine AW.sr envOk (fun N hN=> ?_)
       simp-dsimp-implicitDefEqProofs (maxSteps:=800000) (disch:=omega) only[go_sem,undef,prsP,prs,vls,w64,vi,ints]
       refine hN _ ?_
       try clear hN N
       refine AW.cond rfl (fun h3=> ?_) (fun h3=> ?_)
       ·try simp only[cn]at h3
        obtain⟨e,he⟩:∃e,fr.getD (k+1+j) 0=e:=⟨_,rfl⟩
        obtain⟨hfe,hen⟩:=hfg (k+1+j) (by omega)
        have hcej:=hce k j (by omega)
        rw[he]at hfe hen
        rw[he,hd]at hcej
        have heT:T (pc os pw cj) 0 (un e):=(unV_T hv hen).1.mono hv (Nat.zero_le e)
        have hpj2:ACp Tryz.prog 73 [prs os pw cj,vls os.length us,vi os.length (cjE (pc os pw cj) (un e) (un d))] (ints (qoCr (pc os pw cj) us d e)):=spec_l15Project_v os pw cj h hc hS us hcn _ (cjE_T hv hc heT hdT).1
        have htk2:=tk1 (L:=((qoCl (pc os pw cj) us k).map ints)) (k:=j) (by rw[List.length_map];omega) hcej
        refine AW.skip ?_
        simp only[thn,blk]
        refine hN8 _ ?_
        try clear hN8 N8
        refine AW.seq (fun N9 hN9=> ?_)
        refine AW.block ?_
        refine AW.drawL envOk (by kernel_rfl) 14 (by kernel_rfl) ?_
        simp-dsimp-implicitDefEqProofs (maxSteps:=800000) (disch:=omega) only[hr_nil,hr_one,hr_if,List.take_succ_cons,List.take_zero,List.drop_succ_cons,List.drop_zero,List.take_nil,List.drop_nil,go_sem,undef,prsP,prs,vls,w64,vi,ints,ints,gd_i,hfe]
        refine⟨_,.of (spec_l07Unit_ok os.length e (by omega) (by omega)),?_⟩
        try simp-dsimp-implicitDefEqProofs (maxSteps:=800000) (disch:=omega) only[go_sem,undef,prsP,prs,vls,w64,vi,ints]
        refine⟨_,.of (spec_l10Conj_ok (h:=h) (hc:=hc) (a:=un e) (b:=un d) (ha:=heT) (hb:=hdT)),?_⟩
        try simp-dsimp-implicitDefEqProofs (maxSteps:=800000) (disch:=omega) only[go_sem,undef,prsP,prs,vls,w64,vi,ints]
        refine⟨_,.of (hpj2),?_⟩
        try simp-dsimp-implicitDefEqProofs (maxSteps:=800000) (disch:=omega) only[go_sem,undef,prsP,prs,vls,w64,vi,ints]
        refine hN9 _ ?_
        try clear hN9 N9
        refine AW.regionL envOk ?_
        simp-dsimp-implicitDefEqProofs (maxSteps:=800000) (disch:=omega) only[go_sem,undef,prsP,prs,vls,w64,vi,ints]
        refine⟨(j+1,m3+4+14),?_,by dsimp only;rw[htk2];intro i9 cs hd9;simp only[upd,ints]at hd9 ⊢;grind,?_,?_⟩
        ·simp(disch:=omega) [wks,wkA,sl,prsP,ints,rows,cubes,vls,w64]<;>(repeat' apply And.intro)<;>first|omega|exact .inr rfl
        ·exact⟨by first|omega|(simp only;omega)|(dsimp only;omega),by first|omega|(simp only;omega)|(dsimp only;omega),by first|omega|(simp only;omega)|(dsimp only;omega)⟩
        ·first|omega|(simp only;omega)
       ·try simp only[cn]at h3
        have hje:j=fr.length-(k+1):=by omega
        have htz:List.take j ((qoCl (pc os pw cj) us k).map ints)=((qoCl (pc os pw cj) us k).map ints):=List.take_of_length_le (by rw[List.length_map];omega)
        have hrz:AV.v j ((qoCl (pc os pw cj) us k).map ints)=rows (qoCl (pc os pw cj) us k):=by unfold rows;rw[hcl k,hje]
        rw[←hrz]at htkc
        refine AW.exit ?_
        simp only[thn,blk,if_true]
        refine hN7 _ ?_
        try clear hN7 N7
        refine AW.freeze 11 w j _ rfl (upd_same _ _ _) (by rw[List.length_take,List.length_map,hclk];omega) ?_
        simp-dsimp-implicitDefEqProofs (maxSteps:=800000) (disch:=omega) only[go_sem,undef]
        rw[htz]
        refine AW.regionL envOk ?_
        simp-dsimp-implicitDefEqProofs (maxSteps:=800000) (disch:=omega) only[go_sem,undef,prsP,prs,vls,w64,vi,ints,hG1c,hG1z,hclz,Nat.le_refl]
        refine hN6 _ ?_
        try clear hN6 N6
        refine AW.nameH (fun G5 hG5=> ?_)
        dsimp only at hG5
        have hq5:∀i cs,qH (nx+2+4+4+1) (nx+1) o fr.length ((qoO os us).map (AV.i .i64)) (k+1) (((qoP (pc os pw cj) us).map ints).take (k+1)) (((qoC (pc os pw cj) us).map rows).take (k+1)) (some (m2+4+7+17,m3+4+4)) i=some cs→G5 i=some cs:=by
         refine qH_ok (fun i cs hi=> ?_) ?_ ?_ ?_ ?_
         ·have hb:=oH_lt hid hi
          rw[←hG5];simp(disch:=omega) only[upd_ne];exact hG1o i cs hi
         ·rw[←hG5];simp(disch:=omega) only[upd_ne];exact hG1y
         ·rw[htkc,←hG5];simp(disch:=omega) only[upd_ne,upd_same]
         ·rw[←hG5];simp(disch:=omega) only[upd_ne];exact hG1a
         ·rw[←hG5];simp(disch:=omega) only[upd_ne,upd_same]
          try simp only[hkk,Nat.zero_add]
        refine AW.regionL envOk ?_
        simp-dsimp-implicitDefEqProofs (maxSteps:=800000) (disch:=omega) only[go_sem,undef,prsP,prs,vls,w64,vi,ints]
        refine⟨(k+1,some (m2+4+7+17,m3+4+4)),?_,hq5,?_,?_⟩
        ·simp(disch:=omega) [wks,wkA,sl,w64,ints,rows,cubes,prsP,prs,vls,w64,vi,ints]<;>omega
        ·exact⟨⟨by first|omega|(simp only;omega)|(dsimp only;omega),by first|omega|(simp only;omega)|(dsimp only;omega)⟩,by simp,fun q hq=>by cases hq;dsimp only;omega⟩
        ·first|omega|(simp only;omega)
     ·try simp only[cn]at h2
      refine AW.exit ?_
      simp only[thn,blk,if_true]
      refine hN4 _ ?_
      try clear hN4 N4
      refine AW.sr envOk (fun N hN=> ?_)
      simp-dsimp-implicitDefEqProofs (maxSteps:=800000) (disch:=omega) only[go_sem,undef,prsP,prs,vls,w64,vi,ints,hone]
      refine hN _ ?_
      try clear hN N
      refine AW.ret ?_
      simp-dsimp-implicitDefEqProofs (maxSteps:=800000) (disch:=omega) only[go_sem,undef]
      have hF:fr.length=0:=by omega
      have e3:qoP (pc os pw cj) us=[]:=List.length_eq_zero_iff.1 (by rw[List.length_map]at hpL;omega)
      have e4:qoC (pc os pw cj) us=[]:=List.length_eq_zero_iff.1 (by rw[List.length_map]at hcL;omega)
      rw[e3,e4]
      exact Vw.prs (v1 _ (fun i cs hi=>by have hb:=oH_lt hid hi;simp(disch:=omega) only[upd_ne];exact hi)) .nl .nl
    ·skip
     simp-dsimp-implicitDefEqProofs (maxSteps:=800000) (disch:=omega) only[go_sem,undef]
     dsimp only[qH]at hk2 hm2 h20 hq2 ⊢
     obtain⟨⟨y1,y2⟩,⟨z1,z2⟩,nyz⟩:=hq2 _ rfl
     dsimp only at y1 y2 z1 z2 nyz
     have hply:min k (qoP (pc os pw cj) us).length=k:=by rw[List.length_map]at hpL;omega
     have hclz:min k (qoC (pc os pw cj) us).length=k:=by rw[List.length_map]at hcL;omega
     have hkk:=hk2
     refine AW.seq (fun N10 hN10=> ?_)
     refine AW.sr envOk (fun N hN=> ?_)
     simp-dsimp-implicitDefEqProofs (maxSteps:=800000) (disch:=omega) only[go_sem,undef,prsP,prs,vls,w64,vi,ints]
     refine hN _ ?_
     try clear hN N
     refine AW.cond rfl (fun h4=> ?_) (fun h4=> ?_)
     ·try simp only[cn]at h4
      have hkl:k<fr.length:=by omega
      obtain⟨d,hd⟩:∃d,fr.getD k 0=d:=⟨_,rfl⟩
      obtain⟨hfk,hdn⟩:=hfg k hkl
      rw[hd]at hfk hdn
      have hpb:=pr4_bd (h.2.1 d hdn)
      have hdT:T (pc os pw cj) 0 (un d):=(unV_T hv hdn).1.mono hv (Nat.zero_le d)
      have hpj:ACp Tryz.prog 73 [prs os pw cj,vls os.length us,vi os.length (pwV (pc os pw cj) (un d) (os.getD d 0))] (ints (qoPr (pc os pw cj) us d)):=spec_l15Project_v os pw cj h hc hS us hcn _ (pwV_T hv hc hdT _)
      have hclk:=hcl k
      refine AW.skip ?_
      simp only[thn,blk]
      refine hN10 _ ?_
      try clear hN10 N10
      refine AW.seq (fun N11 hN11=> ?_)
      refine AW.block ?_
      refine AW.sr envOk (fun N hN=> ?_)
      simp-dsimp-implicitDefEqProofs (maxSteps:=800000) (disch:=omega) only[go_sem,undef,prsP,prs,vls,w64,vi,ints,ints,gd_i,hfk]
      refine AC.pure (.of (spec_l07Unit_ok os.length d (by omega) (by omega))) ?_
      try simp-dsimp-implicitDefEqProofs (maxSteps:=800000) (disch:=omega) only[go_sem,undef,prsP,prs,vls,w64,vi,ints]
      refine hN _ ?_
      try clear hN N
      refine AW.seq (fun N hN=> ?_)
      refine AW.drawL envOk (by kernel_rfl) 17 (by kernel_rfl) ?_
      simp-dsimp-implicitDefEqProofs (maxSteps:=800000) (disch:=omega) only[hr_nil,hr_one,hr_if,List.take_succ_cons,List.take_zero,List.drop_succ_cons,List.drop_zero,List.take_nil,List.drop_nil,go_sem,undef,prsP,prs,vls,w64,vi,ints,ints,gd_i,hfk,hply,Nat.le_refl]
      refine⟨_,.of (spec_l10Pow_ok (h:=h) (hc:=hc) (a:=un d) (ha:=hdT) (k:=os.getD d 0) (hk:=by omega)),?_⟩
      try simp-dsimp-implicitDefEqProofs (maxSteps:=800000) (disch:=omega) only[go_sem,undef,prsP,prs,vls,w64,vi,ints]
      refine⟨_,.of (hpj),?_⟩
      try simp-dsimp-implicitDefEqProofs (maxSteps:=800000) (disch:=omega) only[go_sem,undef,prsP,prs,vls,w64,vi,ints]
      refine hN _ ?_
      try clear hN N
      refine AW.sr envOk (fun N hN=> ?_)
      simp-dsimp-implicitDefEqProofs (maxSteps:=800000) (disch:=omega) only[go_sem,undef,prsP,prs,vls,w64,vi,ints]
      refine hN _ ?_
      try clear hN N
      refine AW.seq (fun N12 hN12=> ?_)
      refine AW.sr envOk (fun N hN=> ?_)
      simp-dsimp-implicitDefEqProofs (maxSteps:=800000) (disch:=omega) only[go_sem,undef,prsP,prs,vls,w64,vi,ints]
      refine hN _ ?_
      try clear hN N
      refine AW.block ?_
      refine AW.nameH (fun Gx hGx=> ?_)
      dsimp only at hGx
      have htkp:=tk1 (L:=((qoP (pc os pw cj) us).map ints)) (k:=k) (by rw[hpL];exact hkl) (hpG k hkl)
      have htkc:=tk1 (L:=((qoC (pc os pw cj) us).map rows)) (k:=k) (by rw[hcL];exact hkl) (hcG k hkl)
      rw[hd]at htkp
      obtain⟨G1,hG1⟩:∃g,lim (m2+31) Gx=g:=⟨_,rfl⟩
      have hlx:∀i,i<m2+31→G1 i=Gx i:=fun i hi=>by rw[←hG1];exact if_pos hi
      have hlt:∀i cs,G1 i=some cs→i<m2+31:=fun i cs hi=>by
       rw[←hG1]at hi
       by_cases e:i<m2+31
       ·exact e
       ·simp only[lim,e,if_false]at hi;cases hi
      have hG1c:G1 (nx+2+4+4+1)=some [oA o fr.length,.h (m2+4+7+17) 0 (k+1),.h z 0 k]:=by rw[hlx _ (by omega),←hGx];simp(disch:=omega) only[upd_ne,upd_same]
      have hG1y:G1 (m2+4+7+17)=some (((qoP (pc os pw cj) us).map ints).take (k+1)):=by rw[hlx _ (by omega),←hGx];simp(disch:=omega) only[upd_ne,upd_same];rw[htkp];rfl
      have hG1a:G1 (nx+1)=some [.nl,.nl,.nl]:=by rw[hlx _ (by omega),←hGx];simp(disch:=omega) only[upd_ne,upd_same]
      have hGxw:Gx (m2+31)=some []:=by rw[←hGx];simp(disch:=omega) only[upd_ne,upd_same]
      have hG1o:∀i cs,oH noH o ((qoO os us).map (AV.i .i64)) i=some cs→G1 i=some cs:=fun i cs hi=>by
       have hb:=oH_lt hid hi
       rw[hlx _ (by omega),←hGx];simp(disch:=omega) only[upd_ne];exact hi
      have hG1z:G1 z=some (((qoC (pc os pw cj) us).map rows).take k):=by rw[hlx _ (by omega),←hGx];simp(disch:=omega) only[upd_ne,upd_same]
      refine AW.loopN (α:=Nat×Nat) (fun x=>sl 101 [(1,vls os.length us),(2,prsP os pw cj),(4,.q (nx+1) 0),(5,.i .i64 os.length),(6,ints (frI os.length us)),(7,.q (nx+2+4+4+1) 0),(9,.i .i64 k),(10,vi os.length (un d)),(11,.h x.2 0 x.1),(12,.i .i64 ((k+1+x.1:Nat):Int))]) (fun x=>upd G1 x.2 (some (((qoCl (pc os pw cj) us k).map ints).take x.1))) (fun x m=>(x.1≤fr.length-(k+1))∧(m2+31)≤x.2∧x.2<m) (fun x=>fr.length-(k+1)-x.1) ((0,(m2+31))) ?_ ?_ (lp0 hGxw hlx hlt) ?_
      ·exact⟨by simp,by first|omega|(simp only;omega)|(dsimp only;omega),by first|omega|(simp only;omega)|(dsimp only;omega)⟩
      ·simp(disch:=omega) [wks,wkA,sl,prsP,ints,rows,cubes,vls]<;>(repeat' apply And.intro)<;>first|omega|exact .inr rfl
      ·skip
       rintro⟨j,w⟩ m3 ⟨hj,hw1,hw2⟩
       simp-dsimp-implicitDefEqProofs (maxSteps:=800000) (disch:=omega) only[go_sem,undef]
       dsimp only at hj hw1 hw2 ⊢
       refine AW.seq (fun N13 hN13=> ?_)
       refine AW.sr envOk (fun N hN=> ?_)
       simp-dsimp-implicitDefEqProofs (maxSteps:=800000) (disch:=omega) only[go_sem,undef,prsP,prs,vls,w64,vi,ints]
       refine hN _ ?_
       try clear hN N
       refine AW.cond rfl (fun h5=> ?_) (fun h5=> ?_)
       ·try simp only[cn]at h5
        obtain⟨e,he⟩:∃e,fr.getD (k+1+j) 0=e:=⟨_,rfl⟩
        obtain⟨hfe,hen⟩:=hfg (k+1+j) (by omega)
        have hcej:=hce k j (by omega)
        rw[he]at hfe hen
        rw[he,hd]at hcej
        have heT:T (pc os pw cj) 0 (un e):=(unV_T hv hen).1.mono hv (Nat.zero_le e)
        have hpj2:ACp Tryz.prog 73 [prs os pw cj,vls os.length us,vi os.length (cjE (pc os pw cj) (un e) (un d))] (ints (qoCr (pc os pw cj) us d e)):=spec_l15Project_v os pw cj h hc hS us hcn _ (cjE_T hv hc heT hdT).1
        have htk2:=tk1 (L:=((qoCl (pc os pw cj) us k).map ints)) (k:=j) (by rw[List.length_map];omega) hcej
        refine AW.skip ?_
        simp only[thn,blk]
        refine hN13 _ ?_
        try clear hN13 N13
        refine AW.seq (fun N14 hN14=> ?_)
        refine AW.block ?_
        refine AW.drawL envOk (by kernel_rfl) 14 (by kernel_rfl) ?_
        simp-dsimp-implicitDefEqProofs (maxSteps:=800000) (disch:=omega) only[hr_nil,hr_one,hr_if,List.take_succ_cons,List.take_zero,List.drop_succ_cons,List.drop_zero,List.take_nil,List.drop_nil,go_sem,undef,prsP,prs,vls,w64,vi,ints,ints,gd_i,hfe]
        refine⟨_,.of (spec_l07Unit_ok os.length e (by omega) (by omega)),?_⟩
        try simp-dsimp-implicitDefEqProofs (maxSteps:=800000) (disch:=omega) only[go_sem,undef,prsP,prs,vls,w64,vi,ints]
        refine⟨_,.of (spec_l10Conj_ok (h:=h) (hc:=hc) (a:=un e) (b:=un d) (ha:=heT) (hb:=hdT)),?_⟩
        try simp-dsimp-implicitDefEqProofs (maxSteps:=800000) (disch:=omega) only[go_sem,undef,prsP,prs,vls,w64,vi,ints]
        refine⟨_,.of (hpj2),?_⟩
        try simp-dsimp-implicitDefEqProofs (maxSteps:=800000) (disch:=omega) only[go_sem,undef,prsP,prs,vls,w64,vi,ints]
        refine hN14 _ ?_
        try clear hN14 N14
        refine AW.regionL envOk ?_
        simp-dsimp-implicitDefEqProofs (maxSteps:=800000) (disch:=omega) only[go_sem,undef,prsP,prs,vls,w64,vi,ints]
        refine⟨(j+1,m3+4+14),?_,by dsimp only;rw[htk2];intro i9 cs hd9;simp only[upd,ints]at hd9 ⊢;grind,?_,?_⟩
        ·simp(disch:=omega) [wks,wkA,sl,prsP,ints,rows,cubes,vls,w64]<;>(repeat' apply And.intro)<;>first|omega|exact .inr rfl
        ·exact⟨by first|omega|(simp only;omega)|(dsimp only;omega),by first|omega|(simp only;omega)|(dsimp only;omega),by first|omega|(simp only;omega)|(dsimp only;omega)⟩
        ·first|omega|(simp only;omega)
       ·try simp only[cn]at h5
        have hje:j=fr.length-(k+1):=by omega
        have htz:List.take j ((qoCl (pc os pw cj) us k).map ints)=((qoCl (pc os pw cj) us k).map ints):=List.take_of_length_le (by rw[List.length_map];omega)
        have hrz:AV.v j ((qoCl (pc os pw cj) us k).map ints)=rows (qoCl (pc os pw cj) us k):=by unfold rows;rw[hcl k,hje]
        rw[←hrz]at htkc
        refine AW.exit ?_
        simp only[thn,blk,if_true]
        refine hN12 _ ?_
        try clear hN12 N12
        refine AW.freeze 11 w j _ rfl (upd_same _ _ _) (by rw[List.length_take,List.length_map,hclk];omega) ?_
        simp-dsimp-implicitDefEqProofs (maxSteps:=800000) (disch:=omega) only[go_sem,undef]
        rw[htz]
        refine AW.regionL envOk ?_
        simp-dsimp-implicitDefEqProofs (maxSteps:=800000) (disch:=omega) only[go_sem,undef,prsP,prs,vls,w64,vi,ints,hG1c,hG1z,hclz,Nat.le_refl]
        refine hN11 _ ?_
        try clear hN11 N11
        refine AW.nameH (fun G5 hG5=> ?_)
        dsimp only at hG5
        have hq5:∀i cs,qH (nx+2+4+4+1) (nx+1) o fr.length ((qoO os us).map (AV.i .i64)) (k+1) (((qoP (pc os pw cj) us).map ints).take (k+1)) (((qoC (pc os pw cj) us).map rows).take (k+1)) (some (m2+4+7+17,m3+4+4)) i=some cs→G5 i=some cs:=by
         refine qH_ok (fun i cs hi=> ?_) ?_ ?_ ?_ ?_
         ·have hb:=oH_lt hid hi
          rw[←hG5];simp(disch:=omega) only[upd_ne];exact hG1o i cs hi
         ·rw[←hG5];simp(disch:=omega) only[upd_ne];exact hG1y
         ·rw[htkc,←hG5];simp(disch:=omega) only[upd_ne,upd_same]
         ·rw[←hG5];simp(disch:=omega) only[upd_ne];exact hG1a
         ·rw[←hG5];simp(disch:=omega) only[upd_ne,upd_same]
          try simp only[hkk,Nat.zero_add]
        refine AW.regionL envOk ?_
        simp-dsimp-implicitDefEqProofs (maxSteps:=800000) (disch:=omega) only[go_sem,undef,prsP,prs,vls,w64,vi,ints]
        refine⟨(k+1,some (m2+4+7+17,m3+4+4)),?_,hq5,?_,?_⟩
        ·simp(disch:=omega) [wks,wkA,sl,w64,ints,rows,cubes,prsP,prs,vls,w64,vi,ints]<;>omega
        ·exact⟨⟨by first|omega|(simp only;omega)|(dsimp only;omega),by first|omega|(simp only;omega)|(dsimp only;omega)⟩,by simp,fun q hq=>by cases hq;dsimp only;omega⟩
        ·first|omega|(simp only;omega)
     ·try simp only[cn]at h4
      refine AW.exit ?_
      simp only[thn,blk,if_true]
      refine hN4 _ ?_
      try clear hN4 N4
      refine AW.sr envOk (fun N hN=> ?_)
      simp-dsimp-implicitDefEqProofs (maxSteps:=800000) (disch:=omega) only[go_sem,undef,prsP,prs,vls,w64,vi,ints,hone]
      refine hN _ ?_
      try clear hN N
      refine AW.ret ?_
      simp-dsimp-implicitDefEqProofs (maxSteps:=800000) (disch:=omega) only[go_sem,undef]
      have hkF:k=fr.length:=by omega
      have e3:List.take k ((qoP (pc os pw cj) us).map ints)=((qoP (pc os pw cj) us).map ints):=List.take_of_length_le (by omega)
      have e4:List.take k ((qoC (pc os pw cj) us).map rows)=((qoC (pc os pw cj) us).map rows):=List.take_of_length_le (by omega)
      rw[e3,e4]
      rw[List.length_map]at hpL hcL
      exact Vw.prs (v1 _ (fun i cs hi=>by have hb:=oH_lt hid hi;simp(disch:=omega) only[upd_ne];exact hi)) (Vw.rws (by omega) (by simp(disch:=omega) only[upd_ne,upd_same])) (vw_cb (by omega) (by simp(disch:=omega) only[upd_ne,upd_same]))
end
end Go.Proofs.YtnlfbimjcabgiaaGreat
