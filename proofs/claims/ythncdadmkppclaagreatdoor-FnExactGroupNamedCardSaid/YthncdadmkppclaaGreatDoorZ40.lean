import Derived.Test.YthncdadmkppclaaGreatDoorZ18
import Derived.Test.YthncdadmkppclaaGreatDoorZ22
set_option linter.unusedVariables false
set_option linter.unusedSimpArgs false
namespace Go.Proofs.YthncdadmkppclaaGreatDoor
open Nat (reduceAdd reduceSub reduceGT reduceEqDiff reduceMul)
def wdN (e:List Int):Nat→List Int
  |0=>[]
  |k+1=>wdN e k++List.replicate (e.getD k 0).toNat ((k:Int)+1)
theorem wdN_len {e:List Int} (h:∀k,k<e.length→e.getD k 0≤1000):∀k,k≤e.length→(wdN e k).length≤1000*k:=by
  intro k
  induction k with
  |zero=>intro _;simp[wdN]
  | succ k ih=>
    intro hk
    have h1:=ih (by omega)
    have h2:=h k (by omega)
    rw[wdN,List.length_append,List.length_replicate]
    omega
theorem rep_next {j:Nat} {a:Int}:List.replicate (j+1) a=List.replicate j a++[a]:=List.replicate_succ'
theorem Vw.ivl {H:HP} {id n:Nat} {K:List Int} (h:H id=some (K.map (AV.i .i64))) (hn:n=K.length):Vw H (.h id 0 n) (ints K):=by
  subst hn
  exact Vw.fr h (by simp)
theorem spec_l07Word_ok (e:List Int) (he:e.length≤1000) (hv:∀k,k<e.length→0≤e.getD k 0∧e.getD k 0≤1000):ACp Tryz.prog 56 [ints e] (ints (wdN e e.length)):=by
 have hwl:=wdN_len (fun k hk=>(hv k hk).2)
 refine ACp.introV envOk Tryz.func56 rfl (by kernel_rfl) Tryz.ntmps56 Tryz.results56 ((ints_nr _)) (fun nx cX=> ?_)
 refine AW.sr envOk (fun N hN=> ?_)
 simp-dsimp-implicitDefEqProofs (disch:=omega) only[go_sem,undef,ints,w64,gd_i]
 refine hN _ ?_
 try clear hN N
 refine AW.sr envOk (fun N hN=> ?_)
 simp-dsimp-implicitDefEqProofs (disch:=omega) only[go_sem,undef,ints,w64,gd_i]
 refine hN _ ?_
 try clear hN N
 refine AW.seq (fun N1 hN1=> ?_)
 refine AW.sr envOk (fun N hN=> ?_)
 simp-dsimp-implicitDefEqProofs (disch:=omega) only[go_sem,undef,ints,w64,gd_i]
 refine hN _ ?_
 try clear hN N
 refine AW.block ?_
 refine AW.loopN (α:=Nat×Nat×List Int) (fun x=>sl 27 [(0,ints e),(3,.h x.2.1 0 x.2.2.length),(4,.i .i64 x.1)]) (fun x=>upd noH x.2.1 (some (x.2.2.map (.i .i64)))) (fun x m=>(x.1≤e.length∧x.2.1<m)∧x.2.2=wdN e x.1) (fun x=>e.length-x.1) ((0,nx+1,[])) ?_ ?_ (by intro d cs hd;simp only[upd,noH,List.map_nil]at hd ⊢;grind) ?_
 ·exact⟨⟨by omega,by first|omega|(simp only;omega)|(dsimp only;omega)⟩,rfl⟩
 ·simp(disch:=omega) [wks,wkA,sl,w64,ints,rows,cubes,ints,w64,gd_i]<;>omega
 ·skip
  rintro⟨k,id,K⟩ m ⟨⟨hk,hid⟩,hK⟩
  dsimp only at hk hid hK ⊢
  refine AW.seq (fun N2 hN2=> ?_)
  refine AW.sr envOk (fun N hN=> ?_)
  simp-dsimp-implicitDefEqProofs (disch:=omega) only[go_sem,undef,ints,w64,gd_i]
  refine hN _ ?_
  try clear hN N
  refine AW.cond rfl (fun h1=> ?_) (fun h1=> ?_)
  ·try simp only[cn]at h1
   refine AW.skip ?_
   simp only[thn,blk]
   refine hN2 _ ?_
   try clear hN2 N2
   refine AW.seq (fun N3 hN3=> ?_)
   refine AW.block ?_
   refine AW.sr envOk (fun N hN=> ?_)
   simp-dsimp-implicitDefEqProofs (disch:=omega) only[go_sem,undef,ints,w64,gd_i]
   refine hN _ ?_
   try clear hN N
   refine AW.block ?_
   refine AW.loopN (α:=Nat×Nat×List Int) (fun x=>sl 27 [(0,ints e),(3,.h x.2.1 0 x.2.2.length),(4,.i .i64 k),(5,.i .i64 x.1)]) (fun x=>upd noH x.2.1 (some (x.2.2.map (.i .i64)))) (fun x m=>(x.1≤(e.getD k 0).toNat∧x.2.1<m)∧x.2.2=K++List.replicate x.1 ((k:Int)+1)) (fun x=>(e.getD k 0).toNat-x.1) ((0,id,K)) ?_ ?_ (by exact Le.refl _) ?_
   ·exact⟨⟨by omega,by first|omega|(simp only;omega)|(dsimp only;omega)⟩,by simp⟩
   ·simp(disch:=omega) [wks,wkA,sl,w64,ints,rows,cubes,ints,w64,gd_i]<;>omega
   ·skip
    rintro⟨j,id2,K2⟩ m2 ⟨⟨hj,hid2⟩,hK2⟩
    have hvk:=hv k (by omega)
    dsimp only at hj hid2 hK2 ⊢
    have hKl:K2.length≤1001000:=by have:=hwl k hk;rw[hK2,hK,List.length_append,List.length_replicate];omega
    refine AW.seq (fun N4 hN4=> ?_)
    refine AW.sr envOk (fun N hN=> ?_)
    simp-dsimp-implicitDefEqProofs (disch:=omega) only[go_sem,undef,ints,w64,gd_i]
    refine hN _ ?_
    try clear hN N
    refine AW.cond rfl (fun h2=> ?_) (fun h2=> ?_)
    ·try simp only[cn]at h2
     refine AW.skip ?_
     simp only[thn,blk]
     refine hN4 _ ?_
     try clear hN4 N4
     refine AW.seq (fun N5 hN5=> ?_)
     refine AW.block ?_
     refine AW.regionL envOk ?_
     simp-dsimp-implicitDefEqProofs (disch:=omega) only[go_sem,undef,ints,w64,gd_i]
     refine hN5 _ ?_
     try clear hN5 N5
     refine AW.regionL envOk ?_
     simp-dsimp-implicitDefEqProofs (disch:=omega) only[go_sem,undef,ints,w64,gd_i]
     refine⟨(j+1,m2+5+5,K2++[(k:Int)+1]),?_,by intro d cs hd;simp only[upd,noH,tk_map,List.map_append,List.map_cons,List.map_nil]at hd ⊢;grind,?_,?_⟩
     ·simp(disch:=omega) [wks,wkA,sl,w64,ints,rows,cubes,ints,w64,gd_i]<;>omega
     ·exact⟨⟨by omega,by first|omega|(simp only;omega)|(dsimp only;omega)⟩,by simp only[];rw[rep_next,hK2,List.append_assoc]⟩
     ·first|omega|(simp only;omega)
    ·try simp only[cn]at h2
     refine AW.exit ?_
     simp only[thn,blk,if_true]
     refine hN3 _ ?_
     try clear hN3 N3
     refine AW.regionL envOk ?_
     simp-dsimp-implicitDefEqProofs (disch:=omega) only[go_sem,undef,ints,w64,gd_i]
     have hj':j=(e.getD k 0).toNat:=by omega
     refine⟨(k+1,id2,K2),?_,fun _ _ h=>h,?_,?_⟩
     ·simp(disch:=omega) [wks,wkA,sl,w64,ints,rows,cubes,ints,w64,gd_i]<;>omega
     ·exact⟨⟨by omega,by first|omega|(simp only;omega)|(dsimp only;omega)⟩,by simp only[];rw[wdN,hK2,hK,hj']⟩
     ·first|omega|(simp only;omega)
  ·try simp only[cn]at h1
   refine AW.exit ?_
   simp only[thn,blk,if_true]
   refine hN1 _ ?_
   try clear hN1 N1
   refine AW.sr envOk (fun N hN=> ?_)
   simp-dsimp-implicitDefEqProofs (disch:=omega) only[go_sem,undef,ints,w64,gd_i]
   refine hN _ ?_
   try clear hN N
   refine AW.ret ?_
   simp-dsimp-implicitDefEqProofs (disch:=omega) only[go_sem,undef]
   have hfin:K=wdN e e.length:=by rw[hK,show k=e.length by omega]
   rw[←hfin]
   exact Vw.ivl (upd_same _ _ _) rfl
theorem Vw.oAi {o:Option Nat} {K:List Int} (h0:o=none→K=[]):Vw (oH noH o (K.map (AV.i .i64))) (Go.Proofs.YthncdadmkppclaaGreatDoor.oA o K.length) (ints K):=by
  cases o with
  | none=>
    rw[h0 rfl]
    exact .nl
  |some id=>exact Vw.ivl (upd_same _ _ _) rfl
theorem impl_normalWord_ok (e:List Int) (he:e.length≤1000) (hv:∀k,k<e.length→0≤e.getD k 0∧e.getD k 0≤1000):ACp Tryz.prog 80 [ints e] (ints (wdN e e.length)):=by
 have hwl:=wdN_len (fun k hk=>(hv k hk).2)
 refine ACp.introV envOk Tryz.func80 rfl (by kernel_rfl) Tryz.ntmps80 Tryz.results80 ((ints_nr _)) (fun nx cX=> ?_)
 refine AW.sr envOk (fun N hN=> ?_)
 simp-dsimp-implicitDefEqProofs (disch:=omega) only[go_sem,undef,ints,w64,gd_i]
 refine hN _ ?_
 try clear hN N
 refine AW.sr envOk (fun N hN=> ?_)
 simp-dsimp-implicitDefEqProofs (disch:=omega) only[go_sem,undef,ints,w64,gd_i]
 refine hN _ ?_
 try clear hN N
 refine AW.seq (fun N1 hN1=> ?_)
 refine AW.sr envOk (fun N hN=> ?_)
 simp-dsimp-implicitDefEqProofs (disch:=omega) only[go_sem,undef,ints,w64,gd_i]
 refine hN _ ?_
 try clear hN N
 refine AW.block ?_
 refine AW.loopN (α:=Nat×Option Nat×List Int) (fun x=>sl 24 [(3,oA x.2.1 x.2.2.length),(6,ints e),(7,.i .i64 e.length),(8,.i .i64 x.1)]) (fun x=>oH noH x.2.1 (x.2.2.map (.i .i64))) (fun x m=>(x.1≤e.length∧(x.2.1=none→x.2.2=[]))∧(∀id,x.2.1=some id→id<m)∧x.2.2=wdN e x.1) (fun x=>e.length-x.1) ((0,none,[])) ?_ ?_ (by exact Le.refl _) ?_
 ·exact⟨⟨by omega,fun _=>rfl⟩,fun id hid=>(by cases hid),rfl⟩
 ·simp[wks,wkA,sl,ints,oA]
 ·skip
  rintro⟨k,o,K⟩ m ⟨⟨hk,ho⟩,hid,hK⟩
  dsimp only at hk hid hK ho ⊢
  refine AW.sr envOk (fun N hN=> ?_)
  simp-dsimp-implicitDefEqProofs (disch:=omega) only[go_sem,undef,ints,w64,gd_i]
  refine hN _ ?_
  try clear hN N
  refine AW.seq (fun N2 hN2=> ?_)
  refine AW.cond rfl (fun h1=> ?_) (fun h1=> ?_)
  ·try simp only[cn]at h1
   refine AW.skip ?_
   simp only[thn,blk]
   refine hN2 _ ?_
   try clear hN2 N2
   refine AW.seq (fun N3 hN3=> ?_)
   refine AW.block ?_
   refine AW.sr envOk (fun N hN=> ?_)
   simp-dsimp-implicitDefEqProofs (disch:=omega) only[go_sem,undef,ints,w64,gd_i]
   refine hN _ ?_
   try clear hN N
   refine AW.sr envOk (fun N hN=> ?_)
   simp-dsimp-implicitDefEqProofs (disch:=omega) only[go_sem,undef,ints,w64,gd_i]
   refine hN _ ?_
   try clear hN N
   refine AW.block ?_
   refine AW.loopN (α:=Nat×Option Nat×List Int) (fun x=>sl 24 [(3,oA x.2.1 x.2.2.length),(4,.i .i64 k),(6,ints e),(7,.i .i64 e.length),(8,.i .i64 k),(13,.i .i64 (e.getD k 0)),(14,.i .i64 x.1)]) (fun x=>oH noH x.2.1 (x.2.2.map (.i .i64))) (fun x m=>(x.1≤(e.getD k 0).toNat∧(x.2.1=none→x.2.2=[]))∧(∀id,x.2.1=some id→id<m)∧x.2.2=K++List.replicate x.1 ((k:Int)+1)) (fun x=>(e.getD k 0).toNat-x.1) ((0,o,K)) ?_ ?_ (by exact Le.refl _) ?_
   ·exact⟨⟨by omega,ho⟩,fun id h=>(by have:=hid id h;first|omega|(simp only;omega)|(dsimp only;omega)),by simp⟩
   ·simp(disch:=omega) [wks,wkA,sl,w64,ints,rows,cubes,ints,w64,gd_i]<;>omega
   ·skip
    rintro⟨j,(_|id2),K2⟩ m2 ⟨⟨hj,ho2⟩,hid2,hK2⟩
    ·skip
     have hvk:=hv k (by omega)
     dsimp only[oA,oH]at hj hid2 hK2 ho2 ⊢
     have hnil:=ho2 rfl
     subst hnil
     refine AW.sr envOk (fun N hN=> ?_)
     simp-dsimp-implicitDefEqProofs (disch:=omega) only[go_sem,undef,ints,w64,gd_i]
     refine hN _ ?_
     try clear hN N
     refine AW.seq (fun N4 hN4=> ?_)
     refine AW.cond rfl (fun h2=> ?_) (fun h2=> ?_)
     ·try simp only[cn]at h2
      refine AW.skip ?_
      simp only[thn,blk]
      refine hN4 _ ?_
      try clear hN4 N4
      refine AW.seq (fun N5 hN5=> ?_)
      refine AW.block ?_
      refine AW.regionL envOk ?_
      simp-dsimp-implicitDefEqProofs (disch:=omega) only[go_sem,undef,ints,w64,gd_i]
      refine hN5 _ ?_
      try clear hN5 N5
      refine AW.regionL envOk ?_
      simp-dsimp-implicitDefEqProofs (disch:=omega) only[go_sem,undef,ints,w64,gd_i]
      refine⟨(j+1,some (m2+1+4),[(k:Int)+1]),?_,(by intro d cs hd;simp only[oH,upd,noH,List.map_cons,List.map_nil]at hd ⊢;grind),?_,?_⟩
      ·simp(disch:=omega) [wks,wkA,sl,w64,ints,oA]
      ·exact⟨⟨by omega,fun h=>by cases h⟩,fun id h=>(by cases h;first|omega|(simp only;omega)|(dsimp only;omega)),by (try simp only[]);rw[rep_next,←List.append_assoc,←hK2];rfl⟩
      ·first|omega|(simp only;omega)
     ·try simp only[cn]at h2
      refine AW.exit ?_
      simp only[thn,blk,if_true]
      refine hN3 _ ?_
      try clear hN3 N3
      refine AW.regionL envOk ?_
      simp-dsimp-implicitDefEqProofs (disch:=omega) only[go_sem,undef,ints,w64,gd_i]
      have hj':j=(e.getD k 0).toNat:=by omega
      refine⟨(k+1,none,[]),?_,fun _ _ h=>h,?_,?_⟩
      ·simp(disch:=omega) [wks,wkA,sl,w64,ints,oA]
      ·exact⟨⟨by omega,fun _=>rfl⟩,fun id h=>(by cases h),by (try simp only[]);rw[wdN,hK2,hK,hj']⟩
      ·first|omega|(simp only;omega)
    ·skip
     have hvk:=hv k (by omega)
     dsimp only[oA,oH]at hj hid2 hK2 ho2 ⊢
     have hKl:K2.length≤1001000:=by have:=hwl k hk;rw[hK2,hK,List.length_append,List.length_replicate];omega
     have hid3:=hid2 id2 rfl
     refine AW.sr envOk (fun N hN=> ?_)
     simp-dsimp-implicitDefEqProofs (disch:=omega) only[go_sem,undef,ints,w64,gd_i]
     refine hN _ ?_
     try clear hN N
     refine AW.seq (fun N6 hN6=> ?_)
     refine AW.cond rfl (fun h3=> ?_) (fun h3=> ?_)
     ·try simp only[cn]at h3
      refine AW.skip ?_
      simp only[thn,blk]
      refine hN6 _ ?_
      try clear hN6 N6
      refine AW.seq (fun N7 hN7=> ?_)
      refine AW.block ?_
      refine AW.regionL envOk ?_
      simp-dsimp-implicitDefEqProofs (disch:=omega) only[go_sem,undef,ints,w64,gd_i]
      refine hN7 _ ?_
      try clear hN7 N7
      refine AW.regionL envOk ?_
      simp-dsimp-implicitDefEqProofs (disch:=omega) only[go_sem,undef,ints,w64,gd_i]
      refine⟨(j+1,some (m2+1+4),K2++[(k:Int)+1]),?_,(by intro d cs hd;simp only[oH,upd,noH,tk_map,List.map_append,List.map_cons,List.map_nil]at hd ⊢;grind),?_,?_⟩
      ·simp(disch:=omega) [wks,wkA,sl,w64,ints,oA]
      ·exact⟨⟨by omega,fun h=>by cases h⟩,fun id h=>(by cases h;first|omega|(simp only;omega)|(dsimp only;omega)),by (try simp only[]);rw[rep_next,←List.append_assoc,←hK2]⟩
      ·first|omega|(simp only;omega)
     ·try simp only[cn]at h3
      refine AW.exit ?_
      simp only[thn,blk,if_true]
      refine hN3 _ ?_
      try clear hN3 N3
      refine AW.regionL envOk ?_
      simp-dsimp-implicitDefEqProofs (disch:=omega) only[go_sem,undef,ints,w64,gd_i]
      have hj':j=(e.getD k 0).toNat:=by omega
      refine⟨(k+1,some id2,K2),?_,fun _ _ h=>h,?_,?_⟩
      ·simp(disch:=omega) [wks,wkA,sl,w64,ints,oA]
      ·exact⟨⟨by omega,fun h=>by cases h⟩,fun id h=>(by cases h;first|omega|(simp only;omega)|(dsimp only;omega)),by (try simp only[]);rw[wdN,hK2,hK,hj']⟩
      ·first|omega|(simp only;omega)
  ·try simp only[cn]at h1
   refine AW.exit ?_
   simp only[thn,blk,if_true]
   refine hN1 _ ?_
   try clear hN1 N1
   refine AW.sr envOk (fun N hN=> ?_)
   simp-dsimp-implicitDefEqProofs (disch:=omega) only[go_sem,undef,ints,w64,gd_i]
   refine hN _ ?_
   try clear hN N
   refine AW.ret ?_
   simp-dsimp-implicitDefEqProofs (disch:=omega) only[go_sem,undef]
   have hfin:K=wdN e e.length:=by rw[hK,show k=e.length by omega]
   rw[←hfin]
   exact Vw.oAi ho
end Go.Proofs.YthncdadmkppclaaGreatDoor
