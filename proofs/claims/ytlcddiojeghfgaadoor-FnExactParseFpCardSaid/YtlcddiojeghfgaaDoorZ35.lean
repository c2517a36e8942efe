import Derived.Test.YtlcddiojeghfgaaDoorZ34
set_option linter.unusedVariables false
set_option linter.unusedSimpArgs false
namespace Go.Proofs.YtlcddiojeghfgaaDoor
open Nat (reduceAdd reduceSub reduceGT reduceEqDiff reduceMul)
def pl1 (n b:Int):Option Int:=if 1≤b-97+1∧b-97+1≤n then some (b-97+1)else if 1≤b-65+1∧b-65+1≤n then some (-(b-65+1))else none
def ltrs (n:Int) (s:ByteArray) (i:Nat):List Int:=(List.range i).map fun j=>(pl1 n (byt s j)).getD 0
def plAll (n:Int) (s:ByteArray):Prop:=∀j,j<s.size→pl1 n (byt s j)≠none
open Classical in
noncomputable def parW (n:Int) (s:ByteArray):List Int:=if s.toList=(⟨#[49]⟩:ByteArray).toList then []else if plAll n s then ltrs n s s.size else []
open Classical in
noncomputable def parB (n:Int) (s:ByteArray):Bool:=if s.toList=(⟨#[49]⟩:ByteArray).toList then true else if plAll n s then decide ((s.size:Int)>0)else false
noncomputable def parR (n:Int) (s:ByteArray):AV:= .t [ints (parW n s),.b (parB n s)]
theorem tb_nr {x:AV} (h:NR x) (e:Bool):NR (.t [x,.b e]):= .t _ fun k y hk=>by
  match k,hk with
  |0,hk=>cases hk;exact h
  |1,hk=>cases hk;exact .b _
theorem vw_tb {H:HP} {a b x:AV} (h:Vw H a b):Vw H (.t [a,x]) (.t [b,x]):= .t _ _ rfl fun k u v hu hv=>by
  match k,hu,hv with
  |0,hu,hv=>cases hu;cases hv;exact h
  |1,hu,hv=>cases hu;cases hv;exact .refl _
theorem ltrs_len (n:Int) (s:ByteArray) (i:Nat):(ltrs n s i).length=i:=by simp[ltrs]
theorem ltrs_s {n:Int} {s:ByteArray} {i:Nat} {l:Int} (h:pl1 n (byt s i)=some l):ltrs n s (i+1)=ltrs n s i++[l]:=by
  rw[ltrs,List.range_succ,List.map_append,List.map_cons,List.map_nil,h];rfl
theorem intsL2 (a:List Int):NR (ints a):= .v _ _ fun k x h=>by
  rw[List.getElem?_map]at h
  obtain⟨y,_,rfl⟩:=Option.map_eq_some_iff.1 h
  exact .i _ _
noncomputable def lcs (n:Int) (s:ByteArray) (i:Nat):List AV:=(ltrs n s i).map (.i .i64)
theorem lcs_len (n:Int) (s:ByteArray) (i:Nat):(lcs n s i).length=i:=by rw[lcs,List.length_map,ltrs_len]
theorem lcs_s {n:Int} {s:ByteArray} {i:Nat} {l:Int} (h:pl1 n (byt s i)=some l):lcs n s (i+1)=lcs n s i++[.i .i64 l]:=by
  rw[lcs,ltrs_s h,List.map_append];rfl
theorem pl_a {n b:Int} (h:1≤b-97+1∧b-97+1≤n):pl1 n b=some (b-97+1):=by rw[pl1,if_pos h]
theorem pl_b {n b:Int} (h:¬(1≤b-97+1∧b-97+1≤n)) (h2:1≤b-65+1∧b-65+1≤n):pl1 n b=some (-(b-65+1)):=by rw[pl1,if_neg h,if_pos h2]
theorem pl_n {n b:Int} (h:¬(1≤b-97+1∧b-97+1≤n)) (h2:¬(1≤b-65+1∧b-65+1≤n)):pl1 n b=none:=by rw[pl1,if_neg h,if_neg h2]
theorem par_one {n:Int} {s:ByteArray} (h:s.toList=(⟨#[49]⟩:ByteArray).toList):parR n s= .t [ints [],.b true]:=by rw[parR,parW,parB,if_pos h,if_pos h]
theorem par_no {n:Int} {s:ByteArray} {k:Nat} (h:¬s.toList=(⟨#[49]⟩:ByteArray).toList) (hk:k<s.size) (hn:pl1 n (byt s k)=none):parR n s= .t [ints [],.b false]:=by
  have:¬plAll n s:=fun ha=>ha k hk hn
  rw[parR,parW,parB,if_neg h,if_neg h,if_neg this,if_neg this]
theorem par_yes {n:Int} {s:ByteArray} (h:¬s.toList=(⟨#[49]⟩:ByteArray).toList) (ha:plAll n s):parR n s= .t [.v s.size (lcs n s s.size),.b (decide ((s.size:Int)>0))]:=by
  rw[parR,parW,parB,if_neg h,if_neg h,if_pos ha,if_pos ha,ints,ltrs_len];rfl
theorem pl_nx {n:Int} {s:ByteArray} {k:Nat} {l:Int} (hd:∀j,j<k→pl1 n (byt s j)≠none) (h:pl1 n (byt s k)=some l):∀j,j<k+1→pl1 n (byt s j)≠none:=by
  intro j hj
  by_cases e:j=k
  · subst e;rw[h];simp
  · exact hd j (by omega)
set_option maxHeartbeats 4000000 in theorem spec_l06Parse_ok (n:Int) (s:ByteArray) (hs:s.size≤2097152):ACp Tryd.prog 11 [.i .i64 n,.s s] (parR n s):=by
 refine ACp.introV envOk Tryd.func11 rfl (by kernel_rfl) Tryd.ntmps11 Tryd.results11 ((tb_nr (intsL2 _) _)) (fun nx cX=> ?_)
 refine AW.sr envOk (fun N hN=> ?_)
 simp-dsimp-implicitDefEqProofs (disch:=omega) only[go_sem,undef,w64]
 refine hN _ ?_
 try clear hN N
 refine AW.seq (fun N1 hN1=> ?_)
 refine AW.sr envOk (fun N hN=> ?_)
 simp-dsimp-implicitDefEqProofs (disch:=omega) only[go_sem,undef,w64]
 refine hN _ ?_
 try clear hN N
 refine AW.cond rfl (fun h1=> ?_) (fun h1=> ?_)
 ·try simp only[cn]at h1
  refine AW.sr envOk (fun N hN=> ?_)
  simp-dsimp-implicitDefEqProofs (disch:=omega) only[go_sem,undef,w64]
  refine hN _ ?_
  try clear hN N
  refine AW.ret ?_
  simp-dsimp-implicitDefEqProofs (disch:=omega) only[go_sem,undef]
  rw[par_one h1];exact vw_tb (vw_hall (cs:=[]) rfl)
 ·try simp only[cn]at h1
  refine AW.skip ?_
  simp only[thn,blk]
  refine hN1 _ ?_
  try clear hN1 N1
  refine AW.sr envOk (fun N hN=> ?_)
  simp-dsimp-implicitDefEqProofs (disch:=omega) only[go_sem,undef,w64]
  refine hN _ ?_
  try clear hN N
  refine AW.seq (fun N2 hN2=> ?_)
  refine AW.sr envOk (fun N hN=> ?_)
  simp-dsimp-implicitDefEqProofs (disch:=omega) only[go_sem,undef,w64]
  refine hN _ ?_
  try clear hN N
  refine AW.block ?_
  refine AW.loopN (α:=Nat×Nat) (fun x=>sl 53 [(0,.i .i64 n),(1,.s s),(6,.h x.2 0 x.1),(7,.i .i64 x.1)]) (fun x=>upd noH x.2 (some (lcs n s x.1))) (fun x m=>x.1≤s.size∧x.2<m∧∀j,j<x.1→pl1 n (byt s j)≠none) (fun x=>s.size-x.1) ((0,_)) ?_ ?_ (le_one (upd_same _ _ _)) ?_
  ·exact⟨by simp only;omega,by first|omega|(simp only;omega)|(dsimp only;omega),by intro j hj;simp only at hj;omega⟩
  ·simp(disch:=omega) [wks,wkA,sl,w64,ints,rows,cubes,w64]<;>omega
  ·skip
   rintro⟨k,id⟩ m ⟨hk,hid,hd⟩
   simp only at hk hid hd ⊢
   have hb:=byt_le s k
   have hb':0≤((s.data.getD k 0).toNat:Int)∧((s.data.getD k 0).toNat:Int)≤255:=hb
   have g1:(k+1)*8≤140737488355328:=by omega
   have g2:k+1≤9223372036854775807:=by omega
   have hle:k≤(lcs n s k).length:=by rw[lcs_len];exact Nat.le_refl _
   have htk:List.take k (lcs n s k)=lcs n s k:=List.take_of_length_le (by rw[lcs_len];omega)
   refine AW.seq (fun N3 hN3=> ?_)
   refine AW.sr envOk (fun N hN=> ?_)
   simp-dsimp-implicitDefEqProofs (disch:=omega) only[go_sem,undef,w64]
   refine hN _ ?_
   try clear hN N
   refine AW.cond rfl (fun h2=> ?_) (fun h2=> ?_)
   ·try simp only[cn]at h2
    have hk2:k<s.size:=by omega
    refine AW.skip ?_
    simp only[thn,blk]
    refine hN3 _ ?_
    try clear hN3 N3
    refine AW.seq (fun N4 hN4=> ?_)
    refine AW.block ?_
    refine AW.seq (fun N hN=> ?_)
    refine AW.drawL envOk (by kernel_rfl) 14 (by kernel_rfl) ?_
    simp-dsimp-implicitDefEqProofs (disch:=omega) only[hr_nil,hr_one,hr_if,List.take_succ_cons,List.take_zero,List.drop_succ_cons,List.drop_zero,List.take_nil,List.drop_nil,go_sem,undef,w64]
    refine hN _ ?_
    try clear hN N
    refine AW.block ?_
    refine AW.sr envOk (fun N hN=> ?_)
    simp-dsimp-implicitDefEqProofs (disch:=omega) only[go_sem,undef,w64]
    refine AC.pure (.of (spec_l01In_ok _ 1 n)) ?_
    try simp-dsimp-implicitDefEqProofs (disch:=omega) only[go_sem,undef,w64]
    refine hN _ ?_
    try clear hN N
    refine AW.cond rfl (fun h3=> ?_) (fun h3=> ?_)
    ·try simp only[cn]at h3
     have hl:=pl_a (b:=byt s k) ⟨h3.1,h3.2⟩
     refine AW.regionL envOk ?_
     simp-dsimp-implicitDefEqProofs (disch:=omega) only[go_sem,undef,w64,htk,g1,g2,hle]
     refine hN4 _ ?_
     try clear hN4 N4
     refine AW.regionL envOk ?_
     simp-dsimp-implicitDefEqProofs (disch:=omega) only[go_sem,undef,w64]
     refine⟨(k+1,_),?_,by rw[lcs_s hl];exact le_one (upd_same _ _ _),?_,?_⟩
     ·simp(disch:=omega) [wks,wkA,sl,w64,ints,rows,cubes,w64]<;>omega
     ·exact⟨by simp only;omega,by first|omega|(simp only;omega)|(dsimp only;omega),pl_nx hd hl⟩
     ·first|omega|(simp only;omega)
    ·try simp only[cn]at h3
     refine AW.sr envOk (fun N hN=> ?_)
     simp-dsimp-implicitDefEqProofs (disch:=omega) only[go_sem,undef,w64]
     refine AC.pure (.of (spec_l01In_ok _ 1 n)) ?_
     try simp-dsimp-implicitDefEqProofs (disch:=omega) only[go_sem,undef,w64]
     refine hN _ ?_
     try clear hN N
     refine AW.cond rfl (fun h4=> ?_) (fun h4=> ?_)
     ·try simp only[cn]at h4
      have hl:=(pl_b (b:=byt s k) h3 ⟨h4.1,h4.2⟩).trans (congrArg some (Int.zero_sub _).symm)
      refine AW.regionL envOk ?_
      simp-dsimp-implicitDefEqProofs (disch:=omega) only[go_sem,undef,w64,htk,g1,g2,hle]
      refine hN4 _ ?_
      try clear hN4 N4
      refine AW.regionL envOk ?_
      simp-dsimp-implicitDefEqProofs (disch:=omega) only[go_sem,undef,w64]
      refine⟨(k+1,_),?_,by rw[lcs_s hl];exact le_one (upd_same _ _ _),?_,?_⟩
      ·simp(disch:=omega) [wks,wkA,sl,w64,ints,rows,cubes,w64]<;>omega
      ·exact⟨by simp only;omega,by first|omega|(simp only;omega)|(dsimp only;omega),pl_nx hd hl⟩
      ·first|omega|(simp only;omega)
     ·try simp only[cn]at h4
      refine AW.sr envOk (fun N hN=> ?_)
      simp-dsimp-implicitDefEqProofs (disch:=omega) only[go_sem,undef,w64]
      refine hN _ ?_
      try clear hN N
      refine AW.ret ?_
      simp-dsimp-implicitDefEqProofs (disch:=omega) only[go_sem,undef]
      rw[par_no h1 hk2 (pl_n (b:=byt s k) h3 h4)];exact vw_tb .nl
   ·try simp only[cn]at h2
    obtain rfl:k=s.size:=by omega
    refine AW.exit ?_
    simp only[thn,blk,if_true]
    refine hN2 _ ?_
    try clear hN2 N2
    refine AW.sr envOk (fun N hN=> ?_)
    simp-dsimp-implicitDefEqProofs (disch:=omega) only[go_sem,undef,w64]
    refine hN _ ?_
    try clear hN N
    refine AW.ret ?_
    simp-dsimp-implicitDefEqProofs (disch:=omega) only[go_sem,undef]
    rw[par_yes h1 hd];exact vw_tb (vw_hall (lcs_len _ _ _))
end Go.Proofs.YtlcddiojeghfgaaDoor
