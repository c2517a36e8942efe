import Derived.Test.YtlcddiojeghfgaaGreatDoorZ38
set_option linter.unusedVariables false
set_option linter.unusedSimpArgs false
namespace Go.Proofs.YtlcddiojeghfgaaGreatDoor
open Nat (reduceAdd reduceSub reduceGT reduceEqDiff reduceMul)
def digC:List UInt8→Option Int
  |[c]=>if c=50∨c=51∨c=53∨c=55 then some ((c.toNat:Int)-48)else none
  |_=>none
def digsC:List (List UInt8)→Option (List Int)
  |[]=>some []
  |p::ps=>(digC p).bind fun d=>(digsC ps).bind fun ds=>some (d::ds)
def ordC (l:List UInt8):Option (List Int):=if l=[49]then some []else (digsC (spL 32 l)).bind fun os=>if os.length≤6∧prd os os.length≤729 then some os else none
theorem val1 {c:UInt8} (h1:48≤(c.toNat:Int)) (h2:(c.toNat:Int)≤57):valS (ofL [c])=(c.toNat:Int)-48:=by
  have hb:byt (ofL [c]) 0=(c.toNat:Int):=rfl
  have hs:(ofL [c]).size=1:=rfl
  rw[val_yes (by rw[hs];omega) (fun j hj=>by
    obtain rfl:j=0:=by rw[hs]at hj;omega
    unfold isDig;rw[hb];omega),hs]
  simp only[vpre,hb]
  omega
theorem digC_val {p:List UInt8} {d:Int} (h:digC p=some d):valS (ofL p)=d∧pr4 d:=by
  unfold digC at h
  split at h
  · split at h
    · rename_i c hc
      cases h
      rcases hc with rfl|rfl|rfl|rfl
      · exact⟨val1 (by decide) (by decide),.inl rfl⟩
      · exact⟨val1 (by decide) (by decide),.inr (.inl rfl)⟩
      · exact⟨val1 (by decide) (by decide),.inr (.inr (.inl rfl))⟩
      · exact⟨val1 (by decide) (by decide),.inr (.inr (.inr rfl))⟩
    · cases h
  · cases h
theorem digsC_at:∀{ps:List (List UInt8)} {os:List Int},digsC ps=some os→os.length=ps.length∧∀k,k<ps.length→digC (ps.getD k [])=some (os.getD k 0):=by
  intro ps
  induction ps with
  |nil=>intro os h;cases h;exact⟨rfl,fun k hk=>by simp at hk⟩
  | cons p ps ih=>
    intro os h
    rw[digsC]at h
    cases hd:digC p with
    |none=>rw[hd]at h;cases h
    | some d=>
      cases hds:digsC ps with
      |none=>rw[hd,hds]at h;cases h
      | some ds=>
        rw[hd,hds]at h
        cases h
        obtain⟨h1,h2⟩:=ih hds
        refine⟨by simp[h1],fun k hk=> ?_⟩
        cases k with
        |zero=>simpa using hd
        |succ k=>simpa using h2 k (by simpa using hk)
set_option maxHeartbeats 4000000 in theorem spec_l07Orders_ok (l:List UInt8) (os:List Int) (hl:l.length≤2097152) (h:ordC l=some os):ACp Tryz.prog 112 [.s (ofL l)] (.t [ints os,.b true]):=by
 have hsp2:ACp Tryz.prog 111 [.s (ofL l),.i .u8 32] (strs ((spL 32 l).map ofL)):=by
  have:=spec_l01Split_ok (ofL l) 32 (by rw[ofL_sz];omega)
  rwa [spw_L]at this
 refine ACp.introV envOk Tryz.func112 rfl (by kernel_rfl) Tryz.ntmps112 Tryz.results112 ((tb_nr (intsL2 _) _)) (fun nx cX=> ?_)
 refine AW.sr envOk (fun N hN=> ?_)
 simp-dsimp-implicitDefEqProofs (disch:=(first|omega|((repeat refine LC.upd (by omega) ?_);assumption))) only[go_sem,undef,w64]
 refine hN _ ?_
 try clear hN N
 refine AW.sr envOk (fun N hN=> ?_)
 simp-dsimp-implicitDefEqProofs (disch:=(first|omega|((repeat refine LC.upd (by omega) ?_);assumption))) only[go_sem,undef,w64]
 refine hN _ ?_
 try clear hN N
 refine AW.seq (fun N1 hN1=> ?_)
 refine AW.sr envOk (fun N hN=> ?_)
 simp-dsimp-implicitDefEqProofs (disch:=(first|omega|((repeat refine LC.upd (by omega) ?_);assumption))) only[go_sem,undef,w64]
 refine hN _ ?_
 try clear hN N
 refine AW.cond rfl (fun h1=> ?_) (fun h1=> ?_)
 ·try simp only[cn]at h1
  have hl1:l=[49]:=toL_eq.1 h1
  have hos:os=[]:=by rw[ordC,if_pos hl1]at h;cases h;rfl
  refine AW.sr envOk (fun N hN=> ?_)
  simp-dsimp-implicitDefEqProofs (disch:=(first|omega|((repeat refine LC.upd (by omega) ?_);assumption))) only[go_sem,undef,w64]
  refine hN _ ?_
  try clear hN N
  refine AW.ret ?_
  simp-dsimp-implicitDefEqProofs (disch:=(first|omega|((repeat refine LC.upd (by omega) ?_);assumption))) only[go_sem,undef]
  rw[hos]
  exact vw_tb (Vw.fr (upd_same _ _ _) rfl)
 ·try simp only[cn]at h1
  have hl1:¬l=[49]:=fun e=>h1 (toL_eq.2 e)
  rw[ordC,if_neg hl1]at h
  obtain⟨ds,hds,h⟩:=Option.bind_eq_some_iff.1 h
  have hcond:ds.length≤6∧prd ds ds.length≤729:=by
   apply Classical.byContradiction;intro hn;rw[if_neg hn]at h;cases h
  rw[if_pos hcond]at h
  cases h
  obtain⟨hdl,hdg⟩:=digsC_at hds
  have hpr:∀i,i<os.length→pr4 (os.getD i 0):=fun i hi=>(digC_val (hdg i (by omega))).2
  refine AW.skip ?_
  simp only[thn,blk]
  refine hN1 _ ?_
  try clear hN1 N1
  refine AW.sr envOk (fun N hN=> ?_)
  simp-dsimp-implicitDefEqProofs (disch:=(first|omega|((repeat refine LC.upd (by omega) ?_);assumption))) only[go_sem,undef,w64]
  refine AC.pure (.of (hsp2)) ?_
  try simp-dsimp-implicitDefEqProofs (disch:=(first|omega|((repeat refine LC.upd (by omega) ?_);assumption))) only[go_sem,undef,w64]
  refine hN _ ?_
  try clear hN N
  refine AW.seq (fun N2 hN2=> ?_)
  refine AW.sr envOk (fun N hN=> ?_)
  simp-dsimp-implicitDefEqProofs (disch:=(first|omega|((repeat refine LC.upd (by omega) ?_);assumption))) only[go_sem,undef,w64]
  refine hN _ ?_
  try clear hN N
  refine AW.block ?_
  refine AW.loopN (α:=Nat×Nat) (fun x=>sl 40 [(4,.h x.2 0 x.1),(5,strs ((spL 32 l).map ofL)),(6,.i .i64 x.1)]) (fun x=>upd noH x.2 (some ((os.take x.1).map (.i .i64)))) (fun x m=>x.1≤os.length∧x.2<m) (fun x=>os.length-x.1) ((0,nx+2)) ?_ ?_ (by intro d cs hd;exact hd) ?_
  ·exact⟨by simp,by first|omega|(simp only;omega)|(dsimp only;omega)⟩
  ·simp(disch:=omega) [wks,wkA,sl,strs]
  ·skip
   rintro⟨k,id⟩ m ⟨hk,hid⟩
   simp-dsimp-implicitDefEqProofs (disch:=(first|omega|((repeat refine LC.upd (by omega) ?_);assumption))) only[go_sem,undef]
   dsimp only at hk hid ⊢
   have hlen:((spL 32 l).map ofL).length=os.length:=by rw[List.length_map];omega
   refine AW.seq (fun N3 hN3=> ?_)
   refine AW.sr envOk (fun N hN=> ?_)
   simp-dsimp-implicitDefEqProofs (disch:=(first|omega|((repeat refine LC.upd (by omega) ?_);assumption))) only[go_sem,undef,w64,strs,hlen]
   refine hN _ ?_
   try clear hN N
   refine AW.cond rfl (fun h2=> ?_) (fun h2=> ?_)
   ·try simp only[cn]at h2
    have hkn:k<os.length:=by omega
    have hg:=strs_ofL (spL 32 l) (k:=k) (by omega)
    obtain⟨hval,hp4⟩:=digC_val (hdg k (by omega))
    have hb4:=pr4_bd hp4
    have hv2:=spec_l01Value_ok (ofL ((spL 32 l).getD k []))
    rw[hval]at hv2
    have htf:tf (pr4 (os.getD k 0))=true:=tf_t hp4
    have hk6:decide ((k:Int)≥6)=false:=decide_eq_false (by omega)
    have hk7:decide (6≤(k:Int))=false:=decide_eq_false (by omega)
    have htk:os.take (k+1)=os.take k++[os.getD k 0]:=by
     rw[List.take_succ_eq_append_getElem hkn];simp[hkn]
    have hle:((os.take k).map (AV.i .i64)).length=k:=by rw[List.length_map,List.length_take];omega
    have htt:List.take k ((os.take k).map (AV.i .i64))=(os.take k).map (.i .i64):=List.take_of_length_le (by omega)
    refine AW.skip ?_
    simp only[thn,blk]
    refine hN3 _ ?_
    try clear hN3 N3
    refine AW.seq (fun N4 hN4=> ?_)
    refine AW.block ?_
    refine AW.sr envOk (fun N hN=> ?_)
    simp-dsimp-implicitDefEqProofs (disch:=(first|omega|((repeat refine LC.upd (by omega) ?_);assumption))) only[go_sem,undef,w64,strs,hlen,hg,Int.toNat_natCast]
    refine AC.pure (.of (hv2)) ?_
    try simp-dsimp-implicitDefEqProofs (disch:=(first|omega|((repeat refine LC.upd (by omega) ?_);assumption))) only[go_sem,undef,w64]
    refine hN _ ?_
    try clear hN N
    refine AW.seq (fun N5 hN5=> ?_)
    refine AW.sr envOk (fun N hN=> ?_)
    simp-dsimp-implicitDefEqProofs (disch:=(first|omega|((repeat refine LC.upd (by omega) ?_);assumption))) only[go_sem,undef,w64,htf,hk6,hk7]
    refine AC.pure (.of (spec_l01Prime_ok (os.getD k 0))) ?_
    try simp-dsimp-implicitDefEqProofs (disch:=(first|omega|((repeat refine LC.upd (by omega) ?_);assumption))) only[go_sem,undef,w64,htf,hk6,hk7,Bool.not_true]
    refine hN _ ?_
    try clear hN N
    refine AW.condF rfl ?_
    refine AW.skip ?_
    simp only[thn,blk]
    refine hN5 _ ?_
    try clear hN5 N5
    refine AW.regionL envOk ?_
    simp-dsimp-implicitDefEqProofs (disch:=(first|omega|((repeat refine LC.upd (by omega) ?_);assumption))) only[go_sem,undef,w64,hle,htt]
    refine hN4 _ ?_
    try clear hN4 N4
    refine AW.regionL envOk ?_
    simp-dsimp-implicitDefEqProofs (disch:=(first|omega|((repeat refine LC.upd (by omega) ?_);assumption))) only[go_sem,undef,w64]
    refine⟨(k+1,_),?_,by rw[htk,List.map_append];exact le_one (upd_same _ _ _),?_,?_⟩
    ·simp(disch:=omega) [wks,wkA,sl,w64,strs,hlen]
    ·exact⟨by first|omega|(simp only;omega)|(dsimp only;omega),by first|omega|(simp only;omega)|(dsimp only;omega)⟩
    ·first|omega|(simp only;omega)
   ·try simp only[cn]at h2
    have hke:k=os.length:=by omega
    rw[hke,List.take_length]
    have hsp:=sprd_bd hpr os.length (Nat.le_refl _)
    have h729:decide (sprd os os.length≤729)=true:=decide_eq_true (by omega)
    refine AW.exit ?_
    simp only[thn,blk,if_true]
    refine hN2 _ ?_
    try clear hN2 N2
    refine AW.sr envOk (fun N hN=> ?_)
    simp-dsimp-implicitDefEqProofs (disch:=(first|omega|((repeat refine LC.upd (by omega) ?_);assumption))) only[go_sem,undef,w64,h729]
    refine AC.pure (.lent (spec_l07Product_ok os hcond.1 hpr) (.cons (Vw.fr (upd_same _ _ _) (List.length_map ..)) .nil) (.i _ _)) ?_
    try simp-dsimp-implicitDefEqProofs (disch:=(first|omega|((repeat refine LC.upd (by omega) ?_);assumption))) only[go_sem,undef,w64]
    refine hN _ ?_
    try clear hN N
    refine AW.ret ?_
    simp-dsimp-implicitDefEqProofs (disch:=(first|omega|((repeat refine LC.upd (by omega) ?_);assumption))) only[go_sem,undef]
    rw[h729]
    exact vw_tb (Vw.fr (upd_same _ _ _) (List.length_map ..))
def letC (i:Nat):List UInt8:=[UInt8.ofNat (97+i)]
theorem wtx_let (i:Nat) (h:i<6):wtx [(i:Int)+1]=ofL (letC i):=by
  have h0:wtx [((0:Nat):Int)+1]=ofL (letC 0):=by kernel_rfl
  have h1:wtx [((1:Nat):Int)+1]=ofL (letC 1):=by kernel_rfl
  have h2:wtx [((2:Nat):Int)+1]=ofL (letC 2):=by kernel_rfl
  have h3:wtx [((3:Nat):Int)+1]=ofL (letC 3):=by kernel_rfl
  have h4:wtx [((4:Nat):Int)+1]=ofL (letC 4):=by kernel_rfl
  have h5:wtx [((5:Nat):Int)+1]=ofL (letC 5):=by kernel_rfl
  have hi:i=0∨i=1∨i=2∨i=3∨i=4∨i=5:=by omega
  rcases hi with rfl|rfl|rfl|rfl|rfl|rfl<;>assumption
theorem spec_l07Letter_ok (i:Nat) (h:i<6):ACp Tryz.prog 120 [.i .i64 i] (.s (ofL (letC i))):=by
 have hwt:=spec_l06Text_ok [(i:Int)+1] (by simp)
 rw[wtx_let i h]at hwt
 refine ACp.intro' envOk Tryz.func120 rfl (by kernel_rfl) Tryz.ntmps120 Tryz.results120 (.s _) (fun nx cX=> ?_)
 refine AW.sr envOk (fun N hN=> ?_)
 simp-dsimp-implicitDefEqProofs (disch:=(first|omega|((repeat refine LC.upd (by omega) ?_);assumption))) only[go_sem,undef,w64]
 refine hN _ ?_
 try clear hN N
 refine AW.sr envOk (fun N hN=> ?_)
 simp-dsimp-implicitDefEqProofs (disch:=(first|omega|((repeat refine LC.upd (by omega) ?_);assumption))) only[go_sem,undef,w64]
 refine AC.pure (.lent (hwt) (.cons (Vw.fr (upd_same _ _ _) rfl) .nil) (.s _)) ?_
 try simp-dsimp-implicitDefEqProofs (disch:=(first|omega|((repeat refine LC.upd (by omega) ?_);assumption))) only[go_sem,undef,w64]
 refine hN _ ?_
 try clear hN N
 refine AW.ret ?_
 simp-dsimp-implicitDefEqProofs (disch:=(first|omega|((repeat refine LC.upd (by omega) ?_);assumption))) only[go_sem,undef]
 skip
end Go.Proofs.YtlcddiojeghfgaaGreatDoor
