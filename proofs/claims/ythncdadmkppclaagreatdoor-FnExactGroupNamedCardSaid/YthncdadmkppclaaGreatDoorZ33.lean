import Derived.Test.YthncdadmkppclaaGreatDoorZ10
import Derived.Test.YthncdadmkppclaaGreatDoorZ32
set_option linter.unusedVariables false
set_option linter.unusedSimpArgs false
namespace Go.Proofs.YthncdadmkppclaaGreatDoor
open Nat (reduceAdd reduceSub reduceGT reduceEqDiff reduceMul)
noncomputable def sel (o:Int):Nat→List Nat
  |0=>[]
  |k+1=>if (trow k).1=o then sel o k++[k]else sel o k
noncomputable def scells (o:Int) (n:Nat):List AV:=(sel o n).flatMap fun k=>cellsR (trow k)
noncomputable def icells (o:Int) (n:Nat):List AV:=(sel o n).flatMap gcell
theorem sel_le (o:Int):∀n,(sel o n).length≤n:=by
  intro n
  induction n with
  |zero=>exact Nat.le_refl _
  | succ n ih=>
    rw[sel];split
    · rw[List.length_append];simp only[List.length_cons,List.length_nil];omega
    · omega
theorem sel_lt (o:Int):∀n k,k∈sel o n→k<n∧(trow k).1=o:=by
  intro n
  induction n with
  |zero=>intro k hk;cases hk
  | succ n ih=>
    intro k hk
    rw[sel]at hk
    split at hk
    · rename_i h
      rcases List.mem_append.1 hk with h1|h1
      · have:=ih k h1;exact⟨by omega,this.2⟩
      · simp only[List.mem_cons,List.not_mem_nil,or_false]at h1;subst h1;exact⟨by omega,h⟩
    · have:=ih k hk;exact⟨by omega,this.2⟩
theorem fm_len {α β:Type} {f:α→List β} {c:Nat} (hf:∀x,(f x).length=c):∀xs:List α,(xs.flatMap f).length=xs.length*c:=by
  intro xs
  induction xs with
  |nil=>simp
  |cons x xs ih=>rw[List.flatMap_cons,List.length_append,hf,ih,List.length_cons,Nat.succ_mul];omega
theorem fm_get {α β:Type} {f:α→List β} {c:Nat} (hf:∀x,(f x).length=c):∀(xs:List α) {k i:Nat} {x:α},xs[k]? =some x→i<c→(xs.flatMap f)[k*c+i]? =(f x)[i]? :=by
  intro xs
  induction xs with
  |nil=>intro k i x h;simp at h
  | cons y ys ih=>
    intro k i x h hi
    rw[List.flatMap_cons]
    cases k with
    | zero=>
      simp only[List.getElem?_cons_zero,Option.some.injEq]at h
      subst h
      rw[List.getElem?_append_left (by rw[hf];omega),Nat.zero_mul,Nat.zero_add]
    | succ k=>
      rw[List.getElem?_cons_succ]at h
      rw[List.getElem?_append_right (by rw[hf,Nat.succ_mul];omega),hf,←ih h hi]
      congr 1
      rw[Nat.succ_mul];omega
theorem fm_part {α β:Type} {f:α→List β} {c:Nat} (hf:∀x,(f x).length=c) {xs:List α} {k:Nat} {x:α} (h:xs[k]? =some x):((xs.flatMap f).drop (k*c)).take c=f x:=by
  apply List.ext_getElem?
  intro i
  rw[List.getElem?_take]
  split
  · rename_i hi;rw[List.getElem?_drop,fm_get hf xs h hi]
  · rename_i hi;rw[List.getElem?_eq_none (by rw[hf];omega)]
theorem scells_len (o:Int) (n:Nat):(scells o n).length=(sel o n).length*3:=fm_len (f:=fun k=>cellsR (trow k)) (c:=3) (fun _=>rfl) _
theorem icells_len (o:Int) (n:Nat):(icells o n).length=(sel o n).length*4:=fm_len (f:=gcell) (c:=4) (fun _=>rfl) _
theorem tbl_at {k:Nat} (h:k<82):tbl[k]? =some (trow k):=by
  unfold trow
  rw[List.getD_eq_getElem?_getD,List.getElem?_eq_getElem (by rw[tbl_len];exact h)];rfl
theorem tcells_at {k i:Nat} (h:k<82) (hi:i<3):tcells.getD (k*3+i) .j=(cellsR (trow k)).getD i .j:=by
  unfold tcells
  rw[List.getD_eq_getElem?_getD,List.getD_eq_getElem?_getD,fm_get (c:=3) (fun _=>rfl) _ (tbl_at h) hi]
theorem tcells_part {k:Nat} (h:k<82):(tcells.drop (k*3)).take 3=cellsR (trow k):=fm_part (f:=cellsR) (c:=3) (fun _=>rfl) (tbl_at h)
theorem gcells_part {k:Nat} (h:k<82):((gcells 82).drop (k*4)).take 4=gcell k:=by
  apply List.ext_getElem?
  intro i
  rw[List.getElem?_take]
  split
  · rename_i hi;rw[List.getElem?_drop,gcells_get h hi]
  · rename_i hi;rw[List.getElem?_eq_none (by simp[gcell];omega)]
theorem flat_nr {α:Type} {f:α→List AV} (hf:∀a x,x∈f a→NR x) (xs:List α):∀(k:Nat) (x:AV),(xs.flatMap f)[k]? =some x→NR x:=by
  intro k x h
  obtain⟨a,_,h2⟩:=List.mem_flatMap.1 (List.mem_of_getElem? h)
  exact hf a x h2
theorem cellsR_nr (r:Row):∀x,x∈cellsR r→NR x:=by
  intro x h
  simp only[cellsR,List.mem_cons,List.not_mem_nil,or_false]at h
  rcases h with rfl|rfl|rfl
  · exact .i _ _
  · exact .s _
  · exact .s _
theorem gcell_nr (k:Nat):∀x,x∈gcell k→NR x:=by
  intro x h
  simp only[gcell,List.mem_cons,List.not_mem_nil,or_false]at h
  rcases h with rfl|rfl|rfl|rfl
  · exact .i _ _
  · exact .i _ _
  · exact .s _
  · exact .s _
theorem arr3 (x y z:Value):(#[x,y,z]:Array Value).size=3:=rfl
theorem arr4 (x y z u:Value):(#[x,y,z,u]:Array Value).size=4:=rfl
theorem one3 (a:Int) (x y:ByteArray):∀z,z∈ [AV.i .i64 a,.s x,.s y]→one z=true:=by
  intro z hz
  simp only[List.mem_cons,List.not_mem_nil,or_false]at hz
  rcases hz with rfl|rfl|rfl<;>rfl
theorem one3t (a:Int) (x y:ByteArray):(∀z,z∈ [AV.i .i64 a,.s x,.s y]→one z=true)=True:=eq_true (one3 a x y)
theorem one4t (a b:Int) (x y:ByteArray):(∀z,z∈ [AV.i .i64 a,.i .i64 b,.s x,.s y]→one z=true)=True:=eq_true (one4 a b x y)
theorem le_one {H:HP} {id:Nat} {c:List AV} (h:H id=some c):∀i cs,upd noH id (some c) i=some cs→H i=some cs:=by
  intro i cs hd
  simp only[upd]at hd
  split at hd
  · rename_i e;subst e;rw[h];exact hd
  · cases hd
theorem sel_y {o:Int} {k:Nat} (h:(trow k).1=o):sel o (k+1)=sel o k++[k]:=by rw[sel,if_pos h]
theorem sel_n {o:Int} {k:Nat} (h:¬(trow k).1=o):sel o (k+1)=sel o k:=by rw[sel,if_neg h]
theorem scells_y {o:Int} {k:Nat} (h:(trow k).1=o):scells o (k+1)=List.take ((sel o k).length*3) (scells o k)++[.i .i64 (trow k).1,.s (trow k).2.1,.s (trow k).2.2]:=by
  rw[List.take_of_length_le (by rw[scells_len];omega),scells,sel_y h,List.flatMap_append]
  simp[scells,cellsR]
theorem icells_y {o:Int} {k:Nat} (h:(trow k).1=o):icells o (k+1)=List.take ((sel o k).length*4) (icells o k)++[.i .i64 (trow k).1,.i .i64 (num k),.s (trow k).2.1,.s (trow k).2.2]:=by
  rw[List.take_of_length_le (by rw[icells_len];omega),icells,sel_y h,List.flatMap_append]
  simp[icells,gcell]
theorem scells_n {o:Int} {k:Nat} (h:¬(trow k).1=o):scells o (k+1)=scells o k:=by rw[scells,sel_n h];rfl
theorem icells_n {o:Int} {k:Nat} (h:¬(trow k).1=o):icells o (k+1)=icells o k:=by rw[icells,sel_n h];rfl
noncomputable def rowsV (o:Int):AV:= .v (sel o 82).length (scells o 82)
theorem rowsV_nr (o:Int):NR (rowsV o):= .v _ _ (flat_nr (fun k=>cellsR_nr _) _)
set_option maxHeartbeats 2000000 in theorem spec_l30Rows_ok (o:Int):ACp Tryz.prog 29 [.i .i64 o] (rowsV o):=by
 refine ACp.introV envOk Tryz.func29 rfl (by kernel_rfl) Tryz.ntmps29 Tryz.results29 ((rowsV_nr o)) (fun nx cX=> ?_)
 refine AW.sr envOk (fun N hN=> ?_)
 simp-dsimp-implicitDefEqProofs (disch:=omega) only[go_sem,undef,tblV,w64]
 refine hN _ ?_
 try clear hN N
 refine AW.sr envOk (fun N hN=> ?_)
 simp-dsimp-implicitDefEqProofs (disch:=omega) only[go_sem,undef,tblV,w64]
 refine AC.pure (.of (spec_l30Table_ok)) ?_
 try simp-dsimp-implicitDefEqProofs (disch:=omega) only[go_sem,undef,tblV,w64]
 refine hN _ ?_
 try clear hN N
 refine AW.sr envOk (fun N hN=> ?_)
 simp-dsimp-implicitDefEqProofs (disch:=omega) only[go_sem,undef,tblV,w64]
 refine hN _ ?_
 try clear hN N
 refine AW.seq (fun N1 hN1=> ?_)
 refine AW.sr envOk (fun N hN=> ?_)
 simp-dsimp-implicitDefEqProofs (disch:=omega) only[go_sem,undef,tblV,w64]
 refine hN _ ?_
 try clear hN N
 refine AW.block ?_
 refine AW.loopN (α:=Nat×Nat) (fun x=>sl 29 [(0,.i .i64 o),(3,.v 82 tcells),(4,.hs 3 x.2 0 (sel o x.1).length),(5,.i .i64 x.1)]) (fun x=>upd noH x.2 (some (scells o x.1))) (fun x m=>x.1≤82∧x.2<m) (fun x=>82-x.1) ((0,nx+1+2+0)) ?_ ?_ (fun _ _ h=>h) ?_
 ·exact⟨by simp only;omega,by simp only;omega⟩
 ·simp(disch:=omega) [wks,wkA,sl,sel,scells,tblV]
 ·skip
  rintro⟨k,id⟩ m ⟨hk,hid⟩
  simp only at hk hid ⊢
  have hsl:=sel_le o k
  have hcl:=scells_len o k
  refine AW.seq (fun N2 hN2=> ?_)
  refine AW.sr envOk (fun N hN=> ?_)
  simp-dsimp-implicitDefEqProofs (disch:=omega) only[go_sem,undef,tblV,w64]
  refine hN _ ?_
  try clear hN N
  refine AW.cond rfl (fun h1=> ?_) (fun h1=> ?_)
  ·try simp only[cn]at h1
   have hk2:k<82:=by omega
   have e0:=tcells_at (i:=0) hk2 (by omega)
   simp only[Nat.add_zero,cellsR,List.getD_cons_zero]at e0
   have el:k*3<tcells.length:=by rw[tcells_len];omega
   have ep:=tcells_part hk2
   refine AW.skip ?_
   simp only[thn,blk]
   refine hN2 _ ?_
   try clear hN2 N2
   refine AW.seq (fun N3 hN3=> ?_)
   refine AW.block ?_
   refine AW.sr envOk (fun N hN=> ?_)
   simp-dsimp-implicitDefEqProofs (disch:=omega) only[go_sem,undef,tblV,w64,e0,el]
   refine hN _ ?_
   try clear hN N
   refine AW.cond rfl (fun h2=> ?_) (fun h2=> ?_)
   ·try simp only[cn]at h2
    have el2:k*3+3≤tcells.length:=by rw[tcells_len];omega
    have es:=scells_y h2
    have es1:(sel o (k+1)).length=(sel o k).length+1:=by rw[sel_y h2,List.length_append];rfl
    refine AW.regionL envOk ?_
    simp-dsimp-implicitDefEqProofs (disch:=omega) only[go_sem,undef,tblV,w64,ep,cellsR,el2,arr3,one3t]
    refine hN3 _ ?_
    try clear hN3 N3
    refine AW.regionL envOk ?_
    simp-dsimp-implicitDefEqProofs (disch:=omega) only[go_sem,undef,tblV,w64]
    refine⟨(k+1,m+4+7+6),?_,by rw[es];exact le_one (upd_same _ _ _),?_,?_⟩
    ·simp(disch:=omega) [wks,wkA,sl,es1,w64]
    ·exact⟨by simp only;omega,by simp only;omega⟩
    ·first|omega|(simp only;omega)
   ·try simp only[cn]at h2
    have es:=scells_n h2
    have es1:(sel o (k+1)).length=(sel o k).length:=by rw[sel_n h2]
    refine AW.skip ?_
    simp only[thn,blk]
    refine hN3 _ ?_
    try clear hN3 N3
    refine AW.regionL envOk ?_
    simp-dsimp-implicitDefEqProofs (disch:=omega) only[go_sem,undef,tblV,w64]
    refine⟨(k+1,id),?_,by rw[es];exact fun _ _ h=>h,?_,?_⟩
    ·simp(disch:=omega) [wks,wkA,sl,es1,w64]
    ·exact⟨by simp only;omega,by simp only;omega⟩
    ·first|omega|(simp only;omega)
  ·try simp only[cn]at h1
   obtain rfl:k=82:=by omega
   refine AW.exit ?_
   simp only[thn,blk,if_true]
   refine hN1 _ ?_
   try clear hN1 N1
   refine AW.sr envOk (fun N hN=> ?_)
   simp-dsimp-implicitDefEqProofs (disch:=omega) only[go_sem,undef,tblV,w64]
   refine hN _ ?_
   try clear hN N
   refine AW.ret ?_
   simp-dsimp-implicitDefEqProofs (disch:=omega) only[go_sem,undef]
   exact vw_hsat (upd_same _ _ _) hcl
noncomputable def gsel (o:Int):List Nat:=if 1≤o∧o≤31 then sel o 82 else []
noncomputable def gerr (o:Int):Int:=if 1≤o∧o≤31 then (if (sel o 82).length=0 then 4 else 0)else 2
noncomputable def gooR (o:Int):AV:= .t [.v (gsel o).length ((gsel o).flatMap gcell),.i .i64 (gerr o)]
theorem t2_nr {x:AV} (h:NR x) (e:Int):NR (.t [x,.i .i64 e]):= .t _ fun k y hk=>by
  match k,hk with
  |0,hk=>cases hk;exact h
  |1,hk=>cases hk;exact .i _ _
theorem gooR_nr (o:Int):NR (gooR o):=t2_nr (.v _ _ (flat_nr (fun k=>gcell_nr k) _)) _
theorem goo_bad {o:Int} (h:¬(1≤o∧o≤31)):gooR o= .t [.v 0 [],.i .i64 2]:=by rw[gooR,gsel,gerr,if_neg h,if_neg h];rfl
theorem goo_none {o:Int} (h:1≤o∧o≤31) (h0:(sel o 82).length=0):gooR o= .t [.v 0 [],.i .i64 4]:=by
  rw[gooR,gsel,gerr,if_pos h,if_pos h,if_pos h0,List.length_eq_zero_iff.1 h0];rfl
theorem goo_some {o:Int} (h:1≤o∧o≤31) (h0:¬(sel o 82).length=0):gooR o= .t [.v (sel o 82).length (icells o 82),.i .i64 0]:=by
  rw[gooR,gsel,gerr,if_pos h,if_pos h,if_neg h0];rfl
noncomputable def lA (o:Int) (k id:Nat):AV:=if (sel o k).length=0 then .nl else .hs 4 id 0 (sel o k).length
noncomputable def lH (o:Int) (k id:Nat):HP:=if (sel o k).length=0 then noH else upd noH id (some (icells o k))
theorem lH_z {o:Int} {k id:Nat} (h:(sel o k).length=0):lH o k id=noH:=by rw[lH,if_pos h]
theorem lH_s {o:Int} {k id:Nat} (h:0<(sel o k).length):lH o k id=upd noH id (some (icells o k)):=by rw[lH,if_neg (by omega)]
theorem lA_z {o:Int} {k id:Nat} (h:(sel o k).length=0):lA o k id= .nl:=by rw[lA,if_pos h]
theorem lA_s {o:Int} {k id:Nat} (h:0<(sel o k).length):lA o k id= .hs 4 id 0 (sel o k).length:=by rw[lA,if_neg (by omega)]
theorem le_no {H:HP}:∀i cs,noH i=some cs→H i=some cs:=by intro i cs h;cases h
theorem take0 {k:Nat} {xs ys:List AV} (h:k=0):List.take (k*4) xs++ys=ys:=by subst h;simp
noncomputable def ic4 (k:Nat):List AV:=[.i .i64 (trow k).1,.i .i64 (num k),.s (trow k).2.1,.s (trow k).2.2]
theorem lA_y {o:Int} {k id:Nat} (h:(trow k).1=o):lA o (k+1) id= .hs 4 id 0 ((sel o k).length+1):=by
  have:(sel o (k+1)).length=(sel o k).length+1:=by rw[sel_y h,List.length_append];rfl
  rw[lA_s (by omega),this]
theorem lA_n {o:Int} {k id:Nat} (h:¬(trow k).1=o):lA o (k+1) id=lA o k id:=by
  unfold lA;rw[sel_n h]
theorem lH_y0 {o:Int} {k id:Nat} {H:HP} (h0:(sel o k).length=0) (h:(trow k).1=o) (hH:H id=some (ic4 k)):∀i cs,lH o (k+1) id i=some cs→H i=some cs:=by
  have:(sel o (k+1)).length=(sel o k).length+1:=by rw[sel_y h,List.length_append];rfl
  rw[lH_s (by omega),icells_y h,take0 h0];exact le_one hH
theorem lH_yk {o:Int} {k id:Nat} {H:HP} (h:(trow k).1=o) (hH:H id=some (List.take ((sel o k).length*4) (icells o k)++ic4 k)):∀i cs,lH o (k+1) id i=some cs→H i=some cs:=by
  have:(sel o (k+1)).length=(sel o k).length+1:=by rw[sel_y h,List.length_append];rfl
  rw[lH_s (by omega),icells_y h];exact le_one hH
theorem lH_n0 {o:Int} {k id:Nat} {H:HP} (h0:(sel o k).length=0) (h:¬(trow k).1=o):∀i cs,lH o (k+1) id i=some cs→H i=some cs:=by
  rw[lH_z (by rw[sel_n h];exact h0)];exact le_no
theorem lH_nk {o:Int} {k id:Nat} {H:HP} (h0:0<(sel o k).length) (h:¬(trow k).1=o) (hH:H id=some (icells o k)):∀i cs,lH o (k+1) id i=some cs→H i=some cs:=by
  rw[lH_s (by rw[sel_n h];exact h0),icells_n h];exact le_one hH
theorem vw_t2 {H:HP} {a b x:AV} (h:Vw H a b):Vw H (.t [a,x]) (.t [b,x]):= .t _ _ rfl fun k u v hu hv=>by
  match k,hu,hv with
  |0,hu,hv=>cases hu;cases hv;exact h
  |1,hu,hv=>cases hu;cases hv;exact .refl _
set_option maxHeartbeats 2000000 in theorem impl_groupsOfOrder_ok (o:Int):ACp Tryz.prog 36 [.i .i64 o] (gooR o):=by
 refine ACp.introV envOk Tryz.func36 rfl (by kernel_rfl) Tryz.ntmps36 Tryz.results36 ((gooR_nr o)) (fun nx cX=> ?_)
 refine AW.sr envOk (fun N hN=> ?_)
 simp-dsimp-implicitDefEqProofs (disch:=omega) only[go_sem,undef,libV,w64]
 refine hN _ ?_
 try clear hN N
 refine AW.seq (fun N1 hN1=> ?_)
 refine AW.sr envOk (fun N hN=> ?_)
 simp-dsimp-implicitDefEqProofs (disch:=omega) only[go_sem,undef,libV,w64]
 refine AC.pure (.of (impl_inside_ok o 1 31)) ?_
 try simp-dsimp-implicitDefEqProofs (disch:=omega) only[go_sem,undef,libV,w64]
 refine hN _ ?_
 try clear hN N
 refine AW.cond rfl (fun h1=> ?_) (fun h1=> ?_)
 ·try simp only[cn]at h1
  refine AW.sr envOk (fun N hN=> ?_)
  simp-dsimp-implicitDefEqProofs (disch:=omega) only[go_sem,undef,libV,w64]
  refine hN _ ?_
  try clear hN N
  refine AW.ret ?_
  simp-dsimp-implicitDefEqProofs (disch:=omega) only[go_sem,undef]
  rw[goo_bad h1];exact vw_t2 .nl
 ·try simp only[cn]at h1
  refine AW.skip ?_
  simp only[thn,blk]
  refine hN1 _ ?_
  try clear hN1 N1
  refine AW.sr envOk (fun N hN=> ?_)
  simp-dsimp-implicitDefEqProofs (disch:=omega) only[go_sem,undef,libV,w64]
  refine hN _ ?_
  try clear hN N
  refine AW.seq (fun N2 hN2=> ?_)
  refine AW.sr envOk (fun N hN=> ?_)
  simp-dsimp-implicitDefEqProofs (disch:=omega) only[go_sem,undef,libV,w64]
  refine AC.pure (.of (impl_libraryGroups_ok)) ?_
  try simp-dsimp-implicitDefEqProofs (disch:=omega) only[go_sem,undef,libV,w64]
  refine hN _ ?_
  try clear hN N
  refine AW.block ?_
  refine AW.loopN (α:=Nat×Nat) (fun x=>sl 29 [(0,.i .i64 o),(4,lA o x.1 x.2),(10,.v 82 (gcells 82)),(11,.i .i64 82),(12,.i .i64 x.1)]) (fun x=>lH o x.1 x.2) (fun x m=>x.1≤82∧(0<(sel o x.1).length→x.2<m)) (fun x=>82-x.1) ((0,0)) ?_ ?_ (by rw[lH_z rfl];exact le_no) ?_
  ·exact⟨by simp only;omega,by simp[sel]⟩
  ·simp(disch:=omega) [wks,wkA,sl,lA,sel]
  ·skip
   rintro⟨k,id⟩ m ⟨hk,hid⟩
   simp only at hk hid ⊢
   have hsl:=sel_le o k
   have hcl:=icells_len o k
   rcases Nat.eq_zero_or_pos (sel o k).length with h0|h0
   ·skip
    simp only[lA_z h0,lH_z h0]
    refine AW.sr envOk (fun N hN=> ?_)
    simp-dsimp-implicitDefEqProofs (disch:=omega) only[go_sem,undef,libV,w64]
    refine hN _ ?_
    try clear hN N
    refine AW.seq (fun N3 hN3=> ?_)
    refine AW.cond rfl (fun h2=> ?_) (fun h2=> ?_)
    ·try simp only[cn]at h2
     have hk2:k<82:=by omega
     have ep:=gcells_part hk2
     have eq:k*4+4≤(gcells 82).length:=by rw[gcells_len];omega
     refine AW.skip ?_
     simp only[thn,blk]
     refine hN3 _ ?_
     try clear hN3 N3
     refine AW.seq (fun N4 hN4=> ?_)
     refine AW.block ?_
     refine AW.sr envOk (fun N hN=> ?_)
     simp-dsimp-implicitDefEqProofs (disch:=omega) only[go_sem,undef,libV,w64,ep,gcell,eq,arr4,one4t]
     refine hN _ ?_
     try clear hN N
     refine AW.sr envOk (fun N hN=> ?_)
     simp-dsimp-implicitDefEqProofs (disch:=omega) only[go_sem,undef,libV,w64]
     refine hN _ ?_
     try clear hN N
     refine AW.cond rfl (fun h3=> ?_) (fun h3=> ?_)
     ·try simp only[cn]at h3
      have eA:∀id,lA o (k+1) id= .hs 4 id 0 (0+1):=fun id=>by have:=lA_y (id:=id) h3;rw[h0]at this;exact this
      refine AW.regionL envOk ?_
      simp-dsimp-implicitDefEqProofs (disch:=omega) only[go_sem,undef,libV,w64,arr4,one4t]
      refine hN4 _ ?_
      try clear hN4 N4
      refine AW.regionL envOk ?_
      simp-dsimp-implicitDefEqProofs (disch:=omega) only[go_sem,undef,libV,w64]
      refine⟨(k+1,_),?_,lH_y0 h0 h3 (upd_same _ _ _),?_,?_⟩
      ·simp(disch:=omega) [wks,wkA,sl,eA,w64]
      ·exact⟨by simp only;omega,fun _=>by first|omega|(simp only;omega)|(dsimp only;omega)⟩
      ·first|omega|(simp only;omega)
     ·try simp only[cn]at h3
      have eA:=fun id=>(lA_n (id:=id) h3).trans (lA_z h0)
      refine AW.skip ?_
      simp only[thn,blk]
      refine hN4 _ ?_
      try clear hN4 N4
      refine AW.regionL envOk ?_
      simp-dsimp-implicitDefEqProofs (disch:=omega) only[go_sem,undef,libV,w64]
      refine⟨(k+1,0),?_,lH_n0 h0 h3,?_,?_⟩
      ·simp(disch:=omega) [wks,wkA,sl,eA,w64]
      ·exact⟨by simp only;omega,fun h=>by simp only[sel_n h3]at h;omega⟩
      ·first|omega|(simp only;omega)
    ·try simp only[cn]at h2
     obtain rfl:k=82:=by omega
     refine AW.exit ?_
     simp only[thn,blk,if_true]
     refine hN2 _ ?_
     try clear hN2 N2
     refine AW.seq (fun N5 hN5=> ?_)
     refine AW.sr envOk (fun N hN=> ?_)
     simp-dsimp-implicitDefEqProofs (disch:=omega) only[go_sem,undef,libV,w64]
     refine hN _ ?_
     try clear hN N
     refine AW.cond rfl (fun h4=> ?_) (fun h4=> ?_)
     ·try simp only[cn]at h4
      refine AW.sr envOk (fun N hN=> ?_)
      simp-dsimp-implicitDefEqProofs (disch:=omega) only[go_sem,undef,libV,w64]
      refine hN _ ?_
      try clear hN N
      refine AW.ret ?_
      simp-dsimp-implicitDefEqProofs (disch:=omega) only[go_sem,undef]
      rw[goo_none h1 h0];exact vw_t2 .nl
     ·try simp only[cn]at h4
      simp at h4
   ·skip
    simp only[lA_s h0,lH_s h0]
    have hid:=hid h0
    refine AW.sr envOk (fun N hN=> ?_)
    simp-dsimp-implicitDefEqProofs (disch:=omega) only[go_sem,undef,libV,w64]
    refine hN _ ?_
    try clear hN N
    refine AW.seq (fun N6 hN6=> ?_)
    refine AW.cond rfl (fun h5=> ?_) (fun h5=> ?_)
    ·try simp only[cn]at h5
     have hk2:k<82:=by omega
     have ep:=gcells_part hk2
     have eq:k*4+4≤(gcells 82).length:=by rw[gcells_len];omega
     refine AW.skip ?_
     simp only[thn,blk]
     refine hN6 _ ?_
     try clear hN6 N6
     refine AW.seq (fun N7 hN7=> ?_)
     refine AW.block ?_
     refine AW.sr envOk (fun N hN=> ?_)
     simp-dsimp-implicitDefEqProofs (disch:=omega) only[go_sem,undef,libV,w64,ep,gcell,eq,arr4,one4t]
     refine hN _ ?_
     try clear hN N
     refine AW.sr envOk (fun N hN=> ?_)
     simp-dsimp-implicitDefEqProofs (disch:=omega) only[go_sem,undef,libV,w64]
     refine hN _ ?_
     try clear hN N
     refine AW.cond rfl (fun h6=> ?_) (fun h6=> ?_)
     ·try simp only[cn]at h6
      have eA:=fun id=>lA_y (id:=id) h6
      refine AW.regionL envOk ?_
      simp-dsimp-implicitDefEqProofs (disch:=omega) only[go_sem,undef,libV,w64,arr4,one4t]
      refine hN7 _ ?_
      try clear hN7 N7
      refine AW.regionL envOk ?_
      simp-dsimp-implicitDefEqProofs (disch:=omega) only[go_sem,undef,libV,w64]
      refine⟨(k+1,_),?_,lH_yk h6 (upd_same _ _ _),?_,?_⟩
      ·simp(disch:=omega) [wks,wkA,sl,eA,w64]
      ·exact⟨by simp only;omega,fun _=>by first|omega|(simp only;omega)|(dsimp only;omega)⟩
      ·first|omega|(simp only;omega)
     ·try simp only[cn]at h6
      have eA:=fun id=>(lA_n (id:=id) h6).trans (lA_s h0)
      have es1:(sel o (k+1)).length=(sel o k).length:=by rw[sel_n h6]
      refine AW.skip ?_
      simp only[thn,blk]
      refine hN7 _ ?_
      try clear hN7 N7
      refine AW.regionL envOk ?_
      simp-dsimp-implicitDefEqProofs (disch:=omega) only[go_sem,undef,libV,w64]
      refine⟨(k+1,id),?_,lH_nk h0 h6 (by simp(disch:=omega) only[upd_same,upd_ne]),?_,?_⟩
      ·simp(disch:=omega) [wks,wkA,sl,eA,w64]
      ·exact⟨by simp only;omega,fun _=>by first|omega|(simp only;omega)|(dsimp only;omega)⟩
      ·first|omega|(simp only;omega)
    ·try simp only[cn]at h5
     obtain rfl:k=82:=by omega
     refine AW.exit ?_
     simp only[thn,blk,if_true]
     refine hN2 _ ?_
     try clear hN2 N2
     refine AW.seq (fun N8 hN8=> ?_)
     refine AW.sr envOk (fun N hN=> ?_)
     simp-dsimp-implicitDefEqProofs (disch:=omega) only[go_sem,undef,libV,w64]
     refine hN _ ?_
     try clear hN N
     refine AW.cond rfl (fun h7=> ?_) (fun h7=> ?_)
     ·try simp only[cn]at h7
      omega
     ·try simp only[cn]at h7
      refine AW.skip ?_
      simp only[thn,blk]
      refine hN8 _ ?_
      try clear hN8 N8
      refine AW.sr envOk (fun N hN=> ?_)
      simp-dsimp-implicitDefEqProofs (disch:=omega) only[go_sem,undef,libV,w64]
      refine hN _ ?_
      try clear hN N
      refine AW.ret ?_
      simp-dsimp-implicitDefEqProofs (disch:=omega) only[go_sem,undef]
      rw[goo_some h1 (by omega)];exact vw_t2 (vw_hsat (upd_same _ _ _) hcl)
noncomputable def cgR (o:Int):AV:= .t [.i .i64 (gsel o).length,.i .i64 (gerr o)]
theorem cgR_nr (o:Int):NR (cgR o):=t2_nr (.i _ _) _
theorem spec_CountGroups_ok (o:Int):ACp Tryz.prog 27 [.i .i64 o] (cgR o):=by
 refine ACp.intro' envOk Tryz.func27 rfl (by kernel_rfl) Tryz.ntmps27 Tryz.results27 (cgR_nr o) (fun nx cX=> ?_)
 refine AW.sr envOk (fun N hN=> ?_)
 simp-dsimp-implicitDefEqProofs (disch:=omega) only[go_sem,undef,rowsV]
 refine hN _ ?_
 try clear hN N
 refine AW.seq (fun N1 hN1=> ?_)
 refine AW.sr envOk (fun N hN=> ?_)
 simp-dsimp-implicitDefEqProofs (disch:=omega) only[go_sem,undef,rowsV]
 refine AC.pure (.of (spec_l01In_ok o 1 31)) ?_
 try simp-dsimp-implicitDefEqProofs (disch:=omega) only[go_sem,undef,rowsV]
 refine hN _ ?_
 try clear hN N
 refine AW.cond rfl (fun h1=> ?_) (fun h1=> ?_)
 ·try simp only[cn]at h1
  refine AW.sr envOk (fun N hN=> ?_)
  simp-dsimp-implicitDefEqProofs (disch:=omega) only[go_sem,undef,rowsV]
  refine hN _ ?_
  try clear hN N
  refine AW.ret ?_
  simp-dsimp-implicitDefEqProofs (disch:=omega) only[go_sem,undef]
  rw[cgR,gsel,gerr,if_neg h1,if_neg h1];rfl
 ·try simp only[cn]at h1
  refine AW.skip ?_
  simp only[thn,blk]
  refine hN1 _ ?_
  try clear hN1 N1
  refine AW.sr envOk (fun N hN=> ?_)
  simp-dsimp-implicitDefEqProofs (disch:=omega) only[go_sem,undef,rowsV]
  refine AC.pure (.of (spec_l30Rows_ok o)) ?_
  try simp-dsimp-implicitDefEqProofs (disch:=omega) only[go_sem,undef,rowsV]
  refine hN _ ?_
  try clear hN N
  refine AW.seq (fun N2 hN2=> ?_)
  refine AW.sr envOk (fun N hN=> ?_)
  simp-dsimp-implicitDefEqProofs (disch:=omega) only[go_sem,undef,rowsV]
  refine hN _ ?_
  try clear hN N
  refine AW.cond rfl (fun h2=> ?_) (fun h2=> ?_)
  ·try simp only[cn]at h2
   refine AW.sr envOk (fun N hN=> ?_)
   simp-dsimp-implicitDefEqProofs (disch:=omega) only[go_sem,undef,rowsV]
   refine hN _ ?_
   try clear hN N
   refine AW.ret ?_
   simp-dsimp-implicitDefEqProofs (disch:=omega) only[go_sem,undef]
   have h2':(sel o 82).length=0:=by omega
   rw[cgR,gsel,gerr,if_pos h1,if_pos h1,if_pos h2',h2'];rfl
  ·try simp only[cn]at h2
   refine AW.skip ?_
   simp only[thn,blk]
   refine hN2 _ ?_
   try clear hN2 N2
   refine AW.sr envOk (fun N hN=> ?_)
   simp-dsimp-implicitDefEqProofs (disch:=omega) only[go_sem,undef,rowsV]
   refine hN _ ?_
   try clear hN N
   refine AW.ret ?_
   simp-dsimp-implicitDefEqProofs (disch:=omega) only[go_sem,undef]
   rw[cgR,gsel,gerr,if_pos h1,if_pos h1,if_neg (by omega)]
end Go.Proofs.YthncdadmkppclaaGreatDoor
