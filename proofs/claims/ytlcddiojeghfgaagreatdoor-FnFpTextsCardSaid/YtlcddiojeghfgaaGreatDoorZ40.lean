import Derived.Test.YtlcddiojeghfgaaGreatDoorZ14
import Derived.Test.YtlcddiojeghfgaaGreatDoorZ17
set_option linter.unusedVariables false
set_option linter.unusedSimpArgs false
namespace Go.Proofs.YtlcddiojeghfgaaGreatDoor
open Nat (reduceAdd reduceSub reduceGT reduceEqDiff reduceMul)
def wdN (e:List Int):Nat→List Int
  |0=>[]
  |k+1=>wdN e k++List.replicate (e.getD k 0).toNat ((k:Int)+1)
def invW (w:List Int):List Int:=(w.map fun x=> -x).reverse
theorem wdN_len {e:List Int} (h:∀k,k<e.length→e.getD k 0≤1000):∀k,k≤e.length→(wdN e k).length≤1000*k:=by
  intro k
  induction k with
  |zero=>intro _;simp[wdN]
  | succ k ih=>
    intro hk
    have h1:=ih (by omega)
    have h2:=h k (by omega)
    rw[wdN,List.length_append,List.length_replicate]
    omega
theorem invW_len {w:List Int}:(invW w).length=w.length:=by simp[invW]
theorem invW_take {w:List Int} {d:Nat} (h:d<w.length):(invW w).take (d+1)=(invW w).take d++[-(w.getD (w.length-1-d) 0)]:=by
  rw[List.take_succ_eq_append_getElem (by rw[invW_len];exact h)]
  congr 2
  simp[invW,List.getElem_reverse]
  rw[List.getElem?_eq_getElem (by omega)]
  rfl
theorem rep_next {j:Nat} {a:Int}:List.replicate (j+1) a=List.replicate j a++[a]:=List.replicate_succ'
theorem Vw.ivl {H:HP} {id n:Nat} {K:List Int} (h:H id=some (K.map (AV.i .i64))) (hn:n=K.length):Vw H (.h id 0 n) (ints K):=by
  subst hn
  exact Vw.fr h (by simp)
theorem spec_l06Invert_ok (w:List Int) (hw:w.length≤1048576) (hv:∀k,k<w.length→-1048576≤w.getD k 0∧w.getD k 0≤1048576):ACp Tryz.prog 60 [ints w] (ints (invW w)):=by
 refine ACp.introV envOk Tryz.func60 rfl (by kernel_rfl) Tryz.ntmps60 Tryz.results60 ((ints_nr _)) (fun nx cX=> ?_)
 refine AW.sr envOk (fun N hN=> ?_)
 simp-dsimp-implicitDefEqProofs (disch:=omega) only[go_sem,undef,ints,w64,gd_i]
 refine hN _ ?_
 try clear hN N
 refine AW.sr envOk (fun N hN=> ?_)
 simp-dsimp-implicitDefEqProofs (disch:=omega) only[go_sem,undef,ints,w64,gd_i]
 refine hN _ ?_
 try clear hN N
 refine AW.seq (fun N1 hN1=> ?_)
 refine AW.sr envOk (fun N hN=> ?_)
 simp-dsimp-implicitDefEqProofs (disch:=omega) only[go_sem,undef,ints,w64,gd_i]
 refine hN _ ?_
 try clear hN N
 refine AW.block ?_
 refine AW.loopN (α:=Nat×Nat×List Int) (fun x=>sl 22 [(0,ints w),(3,.h x.2.1 0 x.2.2.length),(4,.i .i64 ((w.length:Int)-1-x.1))]) (fun x=>upd noH x.2.1 (some (x.2.2.map (.i .i64)))) (fun x m=>(x.1≤w.length∧x.2.1<m)∧x.2.2=(invW w).take x.1) (fun x=>w.length-x.1) ((0,nx+1,[])) ?_ ?_ (by intro d cs hd;simp only[upd,noH,List.map_nil]at hd ⊢;grind) ?_
 ·exact⟨⟨by omega,by first|omega|(simp only;omega)|(dsimp only;omega)⟩,by simp⟩
 ·simp(disch:=omega) [wks,wkA,sl,w64,ints,rows,cubes,ints,w64,gd_i]<;>omega
 ·skip
  rintro⟨k,id,K⟩ m ⟨⟨hk,hid⟩,hK⟩
  dsimp only at hk hid hK ⊢
  have hKl:K.length=k:=by rw[hK,List.length_take,invW_len];omega
  refine AW.seq (fun N2 hN2=> ?_)
  refine AW.sr envOk (fun N hN=> ?_)
  simp-dsimp-implicitDefEqProofs (disch:=omega) only[go_sem,undef,ints,w64,gd_i]
  refine hN _ ?_
  try clear hN N
  refine AW.cond rfl (fun h1=> ?_) (fun h1=> ?_)
  ·try simp only[cn]at h1
   have e1:((w.length:Int)-1-k).toNat=w.length-1-k:=by omega
   have hb:=hv (w.length-1-k) (by omega)
   have ht:=invW_take (w:=w) (d:=k) (by omega)
   refine AW.skip ?_
   simp only[thn,blk]
   refine hN2 _ ?_
   try clear hN2 N2
   refine AW.seq (fun N3 hN3=> ?_)
   refine AW.block ?_
   refine AW.regionL envOk ?_
   simp-dsimp-implicitDefEqProofs (disch:=omega) only[go_sem,undef,ints,w64,gd_i,e1]
   refine hN3 _ ?_
   try clear hN3 N3
   refine AW.regionL envOk ?_
   simp-dsimp-implicitDefEqProofs (disch:=omega) only[go_sem,undef,ints,w64,gd_i]
   refine⟨(k+1,m+2+7,K++[-(w.getD (w.length-1-k) 0)]),?_,by intro d cs hd;simp only[upd,noH,tk_map,List.map_append,List.map_cons,List.map_nil,Int.zero_sub]at hd ⊢;grind,?_,?_⟩
   ·simp(disch:=omega) [wks,wkA,sl,w64,ints,e1]<;>omega
   ·exact⟨⟨by omega,by first|omega|(simp only;omega)|(dsimp only;omega)⟩,by simp only[];rw[ht,hK]⟩
   ·first|omega|(simp only;omega)
  ·try simp only[cn]at h1
   refine AW.exit ?_
   simp only[thn,blk,if_true]
   refine hN1 _ ?_
   try clear hN1 N1
   refine AW.sr envOk (fun N hN=> ?_)
   simp-dsimp-implicitDefEqProofs (disch:=omega) only[go_sem,undef,ints,w64,gd_i]
   refine hN _ ?_
   try clear hN N
   refine AW.ret ?_
   simp-dsimp-implicitDefEqProofs (disch:=omega) only[go_sem,undef]
   have hfin:K=invW w:=by rw[hK,show k=w.length by omega,←invW_len,List.take_length]
   rw[hfin]
   exact Vw.ivl (upd_same _ _ _) rfl
theorem spec_l07Word_ok (e:List Int) (he:e.length≤1000) (hv:∀k,k<e.length→0≤e.getD k 0∧e.getD k 0≤1000):ACp Tryz.prog 78 [ints e] (ints (wdN e e.length)):=by
 have hwl:=wdN_len (fun k hk=>(hv k hk).2)
 refine ACp.introV envOk Tryz.func78 rfl (by kernel_rfl) Tryz.ntmps78 Tryz.results78 ((ints_nr _)) (fun nx cX=> ?_)
 refine AW.sr envOk (fun N hN=> ?_)
 simp-dsimp-implicitDefEqProofs (disch:=omega) only[go_sem,undef,ints,w64,gd_i]
 refine hN _ ?_
 try clear hN N
 refine AW.sr envOk (fun N hN=> ?_)
 simp-dsimp-implicitDefEqProofs (disch:=omega) only[go_sem,undef,ints,w64,gd_i]
 refine hN _ ?_
 try clear hN N
 refine AW.seq (fun N1 hN1=> ?_)
 refine AW.sr envOk (fun N hN=> ?_)
 simp-dsimp-implicitDefEqProofs (disch:=omega) only[go_sem,undef,ints,w64,gd_i]
 refine hN _ ?_
 try clear hN N
 refine AW.block ?_
 refine AW.loopN (α:=Nat×Nat×List Int) (fun x=>sl 27 [(0,ints e),(3,.h x.2.1 0 x.2.2.length),(4,.i .i64 x.1)]) (fun x=>upd noH x.2.1 (some (x.2.2.map (.i .i64)))) (fun x m=>(x.1≤e.length∧x.2.1<m)∧x.2.2=wdN e x.1) (fun x=>e.length-x.1) ((0,nx+1,[])) ?_ ?_ (by intro d cs hd;simp only[upd,noH,List.map_nil]at hd ⊢;grind) ?_
 ·exact⟨⟨by omega,by first|omega|(simp only;omega)|(dsimp only;omega)⟩,rfl⟩
 ·simp(disch:=omega) [wks,wkA,sl,w64,ints,rows,cubes,ints,w64,gd_i]<;>omega
 ·skip
  rintro⟨k,id,K⟩ m ⟨⟨hk,hid⟩,hK⟩
  dsimp only at hk hid hK ⊢
  refine AW.seq (fun N2 hN2=> ?_)
  refine AW.sr envOk (fun N hN=> ?_)
  simp-dsimp-implicitDefEqProofs (disch:=omega) only[go_sem,undef,ints,w64,gd_i]
  refine hN _ ?_
  try clear hN N
  refine AW.cond rfl (fun h1=> ?_) (fun h1=> ?_)
  ·try simp only[cn]at h1
   refine AW.skip ?_
   simp only[thn,blk]
   refine hN2 _ ?_
   try clear hN2 N2
   refine AW.seq (fun N3 hN3=> ?_)
   refine AW.block ?_
   refine AW.sr envOk (fun N hN=> ?_)
   simp-dsimp-implicitDefEqProofs (disch:=omega) only[go_sem,undef,ints,w64,gd_i]
   refine hN _ ?_
   try clear hN N
   refine AW.block ?_
   refine AW.loopN (α:=Nat×Nat×List Int) (fun x=>sl 27 [(0,ints e),(3,.h x.2.1 0 x.2.2.length),(4,.i .i64 k),(5,.i .i64 x.1)]) (fun x=>upd noH x.2.1 (some (x.2.2.map (.i .i64)))) (fun x m=>(x.1≤(e.getD k 0).toNat∧x.2.1<m)∧x.2.2=K++List.replicate x.1 ((k:Int)+1)) (fun x=>(e.getD k 0).toNat-x.1) ((0,id,K)) ?_ ?_ (by exact Le.refl _) ?_
   ·exact⟨⟨by omega,by first|omega|(simp only;omega)|(dsimp only;omega)⟩,by simp⟩
   ·simp(disch:=omega) [wks,wkA,sl,w64,ints,rows,cubes,ints,w64,gd_i]<;>omega
   ·skip
    rintro⟨j,id2,K2⟩ m2 ⟨⟨hj,hid2⟩,hK2⟩
    have hvk:=hv k (by omega)
    dsimp only at hj hid2 hK2 ⊢
    have hKl:K2.length≤1001000:=by have:=hwl k hk;rw[hK2,hK,List.length_append,List.length_replicate];omega
    refine AW.seq (fun N4 hN4=> ?_)
    refine AW.sr envOk (fun N hN=> ?_)
    simp-dsimp-implicitDefEqProofs (disch:=omega) only[go_sem,undef,ints,w64,gd_i]
    refine hN _ ?_
    try clear hN N
    refine AW.cond rfl (fun h2=> ?_) (fun h2=> ?_)
    ·try simp only[cn]at h2
     refine AW.skip ?_
     simp only[thn,blk]
     refine hN4 _ ?_
     try clear hN4 N4
     refine AW.seq (fun N5 hN5=> ?_)
     refine AW.block ?_
     refine AW.regionL envOk ?_
     simp-dsimp-implicitDefEqProofs (disch:=omega) only[go_sem,undef,ints,w64,gd_i]
     refine hN5 _ ?_
     try clear hN5 N5
     refine AW.regionL envOk ?_
     simp-dsimp-implicitDefEqProofs (disch:=omega) only[go_sem,undef,ints,w64,gd_i]
     refine⟨(j+1,m2+5+5,K2++[(k:Int)+1]),?_,by intro d cs hd;simp only[upd,noH,tk_map,List.map_append,List.map_cons,List.map_nil]at hd ⊢;grind,?_,?_⟩
     ·simp(disch:=omega) [wks,wkA,sl,w64,ints,rows,cubes,ints,w64,gd_i]<;>omega
     ·exact⟨⟨by omega,by first|omega|(simp only;omega)|(dsimp only;omega)⟩,by simp only[];rw[rep_next,hK2,List.append_assoc]⟩
     ·first|omega|(simp only;omega)
    ·try simp only[cn]at h2
     refine AW.exit ?_
     simp only[thn,blk,if_true]
     refine hN3 _ ?_
     try clear hN3 N3
     refine AW.regionL envOk ?_
     simp-dsimp-implicitDefEqProofs (disch:=omega) only[go_sem,undef,ints,w64,gd_i]
     have hj':j=(e.getD k 0).toNat:=by omega
     refine⟨(k+1,id2,K2),?_,fun _ _ h=>h,?_,?_⟩
     ·simp(disch:=omega) [wks,wkA,sl,w64,ints,rows,cubes,ints,w64,gd_i]<;>omega
     ·exact⟨⟨by omega,by first|omega|(simp only;omega)|(dsimp only;omega)⟩,by simp only[];rw[wdN,hK2,hK,hj']⟩
     ·first|omega|(simp only;omega)
  ·try simp only[cn]at h1
   refine AW.exit ?_
   simp only[thn,blk,if_true]
   refine hN1 _ ?_
   try clear hN1 N1
   refine AW.sr envOk (fun N hN=> ?_)
   simp-dsimp-implicitDefEqProofs (disch:=omega) only[go_sem,undef,ints,w64,gd_i]
   refine hN _ ?_
   try clear hN N
   refine AW.ret ?_
   simp-dsimp-implicitDefEqProofs (disch:=omega) only[go_sem,undef]
   have hfin:K=wdN e e.length:=by rw[hK,show k=e.length by omega]
   rw[←hfin]
   exact Vw.ivl (upd_same _ _ _) rfl
end Go.Proofs.YtlcddiojeghfgaaGreatDoor
