import Derived.Test.YthncdadmkppclaaGreatDoorZ44
set_option linter.unusedVariables false
set_option linter.unusedSimpArgs false
namespace Go.Proofs.YthncdadmkppclaaGreatDoor
open Nat (reduceAdd reduceSub reduceGT reduceEqDiff reduceMul)
set_option maxHeartbeats 2000000 in
theorem impl_exponentsOf_n (n:Nat) (hn:n≤100) (r:List UInt8) (hr:r.length≤1048576) (w:List Int) (h:parC n r=some w):∀nx,AC Tryz.prog 60 nx noH [.i .i64 n,.s (ofL r)] (fun nx' H' res=>∃id,res= .t [.h id 0 n,.b true]∧(nx≤id∧id<nx')∧H' id=some ((vecC n w).map (.i .i64))):=by
 obtain⟨hpar,hwl,hwv⟩:=parC_ok h
 have hrw:=impl_readWord_ok n hn r hr w h
 intro nx
 refine AC.intro' envOk Tryz.func60 rfl (by kernel_rfl) Tryz.ntmps60 Tryz.results60 (fun cX=> ?_)
 refine AW.sr envOk (fun N hN=> ?_)
 simp-dsimp-implicitDefEqProofs (disch:=(first|omega|((repeat refine LC.upd (by omega) ?_);assumption))) only[go_sem,undef,w64,ints,gd_i]
 refine hN _ ?_
 try clear hN N
 refine AW.sr envOk (fun N hN=> ?_)
 simp-dsimp-implicitDefEqProofs (disch:=(first|omega|((repeat refine LC.upd (by omega) ?_);assumption))) only[go_sem,undef,w64,ints,gd_i]
 refine AC.pure (.of (hrw)) ?_
 try simp-dsimp-implicitDefEqProofs (disch:=(first|omega|((repeat refine LC.upd (by omega) ?_);assumption))) only[go_sem,undef,w64,ints,gd_i]
 refine hN _ ?_
 try clear hN N
 refine AW.sr envOk (fun N hN=> ?_)
 simp-dsimp-implicitDefEqProofs (disch:=(first|omega|((repeat refine LC.upd (by omega) ?_);assumption))) only[go_sem,undef,w64,ints,gd_i]
 refine hN _ ?_
 try clear hN N
 refine AW.seq (fun N1 hN1=> ?_)
 refine AW.sr envOk (fun N hN=> ?_)
 simp-dsimp-implicitDefEqProofs (disch:=(first|omega|((repeat refine LC.upd (by omega) ?_);assumption))) only[go_sem,undef,w64,ints,gd_i]
 refine hN _ ?_
 try clear hN N
 refine AW.block ?_
 refine AW.loopN (α:=Nat) (fun x=>sl 37 [(7,.b true),(8,.h (nx+2+8+1) 0 n),(19,ints w),(20,.i .i64 w.length),(21,.i .i64 x)]) (fun x=>upd noH (nx+2+8+1) (some (ivs n (vecF w x)))) (fun x m=>x≤w.length∧nx+12≤m) (fun x=>w.length-x) (0) ?_ ?_ (by intro d cs h;simp only[upd,ivs_zero,vecF]at h ⊢;exact h) ?_
 ·exact⟨by omega,by first|omega|(simp only;omega)|(dsimp only;omega)⟩
 ·simp(disch:=omega) [wks,wkA,sl,w64,ints,rows,cubes,w64,ints,gd_i]<;>omega
 ·skip
  rintro k m ⟨hk,hm⟩
  simp-dsimp-implicitDefEqProofs (disch:=(first|omega|((repeat refine LC.upd (by omega) ?_);assumption))) only[go_sem,undef]
  have hlk:=hwv k
  refine AW.sr envOk (fun N hN=> ?_)
  simp-dsimp-implicitDefEqProofs (disch:=(first|omega|((repeat refine LC.upd (by omega) ?_);assumption))) only[go_sem,undef,w64,ints,gd_i]
  refine hN _ ?_
  try clear hN N
  refine AW.seq (fun N2 hN2=> ?_)
  refine AW.cond rfl (fun h1=> ?_) (fun h1=> ?_)
  ·try simp only[cn]at h1
   have hlk2:=hlk (by omega)
   refine AW.skip ?_
   simp only[thn,blk]
   refine hN2 _ ?_
   try clear hN2 N2
   refine AW.seq (fun N3 hN3=> ?_)
   refine AW.block ?_
   refine AW.sr envOk (fun N hN=> ?_)
   simp-dsimp-implicitDefEqProofs (disch:=(first|omega|((repeat refine LC.upd (by omega) ?_);assumption))) only[go_sem,undef,w64,ints,gd_i]
   refine hN _ ?_
   try clear hN N
   refine AW.seq (fun N4 hN4=> ?_)
   refine AW.sr envOk (fun N hN=> ?_)
   simp-dsimp-implicitDefEqProofs (disch:=(first|omega|((repeat refine LC.upd (by omega) ?_);assumption))) only[go_sem,undef,w64,ints,gd_i]
   refine hN _ ?_
   try clear hN N
   refine AW.cond rfl (fun h2=> ?_) (fun h2=> ?_)
   ·try simp only[cn]at h2
    omega
   ·try simp only[cn]at h2
    have hvb:=vecF_bd w k (w.getD k 0-1).toNat
    refine AW.skip ?_
    simp only[thn,blk]
    refine hN4 _ ?_
    try clear hN4 N4
    refine AW.regionL envOk ?_
    simp-dsimp-implicitDefEqProofs (disch:=(first|omega|((repeat refine LC.upd (by omega) ?_);assumption))) only[go_sem,undef,w64,ints,gd_i]
    refine hN3 _ ?_
    try clear hN3 N3
    refine AW.regionL envOk ?_
    simp-dsimp-implicitDefEqProofs (disch:=(first|omega|((repeat refine LC.upd (by omega) ?_);assumption))) only[go_sem,undef,w64,ints,gd_i]
    refine⟨k+1,?_,by intro d cs h;exact h,?_,?_⟩
    ·simp(disch:=omega) [wks,wkA,sl,w64,ints,rows,cubes,w64,ints,gd_i]<;>omega
    ·exact⟨by first|omega|(simp only;omega)|(dsimp only;omega),by first|omega|(simp only;omega)|(dsimp only;omega)⟩
    ·first|omega|(simp only;omega)
  ·try simp only[cn]at h1
   have hke:k=w.length:=by omega
   refine AW.exit ?_
   simp only[thn,blk,if_true]
   refine hN1 _ ?_
   try clear hN1 N1
   refine AW.sr envOk (fun N hN=> ?_)
   simp-dsimp-implicitDefEqProofs (disch:=(first|omega|((repeat refine LC.upd (by omega) ?_);assumption))) only[go_sem,undef,w64,ints,gd_i]
   refine hN _ ?_
   try clear hN N
   refine AW.ret ?_
   simp-dsimp-implicitDefEqProofs (disch:=(first|omega|((repeat refine LC.upd (by omega) ?_);assumption))) only[go_sem,undef]
   refine⟨_,rfl,⟨by omega,by omega⟩,?_⟩
   rw[hke,upd_same,vecC,vec_map]
def rR (i:Nat) (b:List UInt8) (e:List Int):List UInt8:=letC i++[94]++b++[61]++wtL (wdN e e.length)
theorem txR_r (i:Nat) (b:List UInt8) (e:List Int):txR i b e=[59,32]++rR i b e:=by simp[txR,rR]
def pP (os:List Int) (pw:List (List Int)):Nat→List (List UInt8)
  |0=>[]
  |k+1=>if zC (pw.getD k [])=true then pP os pw k else pP os pw k++[rR k (dgL (os.getD k 0)) (pw.getD k [])]
def pJ (n i:Nat) (c:List (List Int)) (acc:List (List UInt8)):Nat→List (List UInt8)
  |0=>acc
  |t+1=>if c.getD t []=unL n (i+1+t)then pJ n i c acc t else pJ n i c acc t++[rR (i+1+t) (letC i) (c.getD t [])]
def pI (os:List Int) (pw:List (List Int)) (cj:List (List (List Int))):Nat→List (List UInt8)
  |0=>pP os pw os.length
  |i+1=>pJ os.length i (cj.getD i []) (pI os pw cj i) (os.length-(i+1))
theorem jt_app (sep:List UInt8) (x:List UInt8):∀xs,Lib.joinTail sep (xs++[x])=Lib.joinTail sep xs++(sep++x):=by
  intro xs
  induction xs with
  |nil=>simp[Lib.joinTail]
  |cons y ys ih=>simp[Lib.joinTail,ih]
theorem pP_tx (os:List Int) (pw:List (List Int)):∀k,txP os pw k=txO os os.length++Lib.joinTail [59,32] (pP os pw k):=by
  intro k
  induction k with
  |zero=>simp[txP,pP,Lib.joinTail]
  | succ k ih=>
    rw[txP,pP]
    split
    · exact ih
    · rw[jt_app,ih,txR_r,List.append_assoc]
theorem pJ_tx {n i:Nat} {c:List (List Int)} {hd acc:List UInt8} {ps:List (List UInt8)} (h:acc=hd++Lib.joinTail [59,32] ps):∀t,txJ n i c acc t=hd++Lib.joinTail [59,32] (pJ n i c ps t):=by
  intro t
  induction t with
  |zero=>exact h
  | succ t ih=>
    rw[txJ,pJ]
    split
    · exact ih
    · rw[jt_app,ih,txR_r,List.append_assoc]
theorem pI_tx (os:List Int) (pw:List (List Int)) (cj:List (List (List Int))):∀i,txI os pw cj i=txO os os.length++Lib.joinTail [59,32] (pI os pw cj i):=by
  intro i
  induction i with
  |zero=>exact pP_tx os pw _
  |succ i ih=>rw[txI,pI];exact pJ_tx ih _
theorem txO_join {os:List Int}:∀k,k<os.length→txO os (k+1)=Lib.join ((os.take (k+1)).map dgL) [32]:=by
  intro k
  induction k with
  | zero=>
    intro hk
    obtain⟨x,xs,rfl⟩:=List.exists_cons_of_length_pos hk
    simp[txO,Lib.join,Lib.joinTail]
  | succ k ih=>
    intro hk
    rw[txO,if_pos (by omega),ih (by omega)]
    have e:os.take (k+1+1)=os.take (k+1)++[os.getD (k+1) 0]:=by
      rw[List.take_succ_eq_append_getElem hk];simp[hk]
    rw[e,List.map_append]
    obtain⟨x,xs,hx⟩:=List.exists_cons_of_length_pos (l:=(os.take (k+1)).map dgL) (by simp;omega)
    rw[hx,List.cons_append,Lib.join_cons,Lib.join_cons,List.map_cons,List.map_nil,jt_app]
    simp
def strc (ps:List (List UInt8)):List AV:=ps.map fun p=> .s (ofL p)
theorem strc_len (ps:List (List UInt8)):(strc ps).length=ps.length:=by simp[strc]
theorem strc_app (ps:List (List UInt8)) (p:List UInt8):strc (ps++[p])=strc ps++[.s (ofL p)]:=by simp[strc]
theorem one_sx (x:ByteArray):(∀z∈ [AV.s x],one z=true)=True:=one_list rfl
theorem strings_Join_L (ps:List (List UInt8)) (sep:List UInt8) (hN:ps.length≤140737488355328) (hlen:(Lib.join ps sep).length≤140737488355328):ACp Tryz.prog 76 [strs (ps.map ofL),.s (ofL sep)] (.s (ofL (Lib.join ps sep))):=by
  have e:(ps.map ofL).map (·.data.toList)=ps:=by rw[List.map_map];exact List.map_id ps
  have h:=strings_Join_s (ps.map ofL) (ofL sep) (by rw[List.length_map];exact hN) (by rw[e];exact hlen)
  rw[e]at h
  exact h
theorem Vw.strc {H:HP} {id n:Nat} {ps:List (List UInt8)} (h:H id=some (Go.Proofs.YthncdadmkppclaaGreatDoor.strc ps)) (hn:n=ps.length):Vw H (.h id 0 n) (strs (ps.map ofL)):=by
  subst hn
  unfold strs
  rw[List.length_map,List.map_map]
  exact Vw.fr h (strc_len ps)
theorem Vw.strcL {H:HP} {a b:Nat} {L:AV} {ps:List (List UInt8)} (h:LC H a b L (Go.Proofs.YthncdadmkppclaaGreatDoor.strc ps)):Vw H L (strs (ps.map ofL)):=by
  unfold strs
  rw[List.length_map,List.map_map]
  exact Vw.lc h (strc_len ps).symm
theorem gd_st {ps:List (List UInt8)} {k:Nat} (h:k<ps.length):(Go.Proofs.YthncdadmkppclaaGreatDoor.strc ps).getD k .j= .s (ofL (ps.getD k [])):=by
  rw[Go.Proofs.YthncdadmkppclaaGreatDoor.strc];exact map_getD _ ps [] h
theorem pP_n {os:List Int} {pw:List (List Int)}:∀k,(pP os pw k).length≤k:=by
  intro k
  induction k with
  |zero=>exact Nat.le_refl _
  |succ k ih=>rw[pP];split<;>(try simp only[List.length_append,List.length_singleton])<;>omega
theorem pJ_n {n i:Nat} {c:List (List Int)} {acc:List (List UInt8)}:∀t,(pJ n i c acc t).length≤acc.length+t:=by
  intro t
  induction t with
  |zero=>exact Nat.le_refl _
  |succ t ih=>rw[pJ];split<;>(try simp only[List.length_append,List.length_singleton])<;>omega
theorem pI_n {os:List Int} {pw:List (List Int)} {cj:List (List (List Int))} (h:os.length≤6):∀i,(pI os pw cj i).length≤6+6*i:=by
  intro i
  induction i with
  |zero=>have:=pP_n (os:=os) (pw:=pw) os.length;rw[pI];omega
  |succ i ih=>have:=pJ_n (n:=os.length) (i:=i) (c:=cj.getD i []) (acc:=pI os pw cj i) (os.length-(i+1));rw[pI];omega
theorem impl_unitVector_u (n j:Nat) (hn:n≤1048576) (hj:j<n):ACp Tryz.prog 70 [.i .i64 n,.i .i64 j] (ints (unL n j)):=(impl_unitVector_o n j hn hj).pure
theorem catR (i:Nat) (bl:List UInt8) (e:List Int):((((ofL (letC i)++⟨#[94]⟩)++ofL bl)++⟨#[61]⟩)++wtx (wdN e e.length))=ofL (rR i bl e):=by
  rw[show(⟨#[94]⟩:ByteArray)=ofL [94]from rfl,show(⟨#[61]⟩:ByteArray)=ofL [61]from rfl,wt_L,ofL_app,ofL_app,ofL_app,ofL_app,rR]
theorem txI_len {os:List Int} {pw:List (List Int)} {cj:List (List (List Int))} (h:presOk os pw cj):∀i,i≤os.length→(txI os pw cj i).length≤42012+42000*i:=by
  obtain⟨ho,hp,hc⟩:=h.ent
  have hn6:=h.1.1
  intro i
  induction i with
  | zero=>
    intro _
    have:=txP_len hn6 ho (fun k hk=>⟨by have:=hp k hk;omega,fun j hj=>((hp k hk).2 j hj).2⟩) os.length (Nat.le_refl _)
    rw[txI];omega
  | succ i ih=>
    intro hi
    obtain⟨hci,hct⟩:=hc i (by omega)
    have:=txJ_len (n:=os.length) (i:=i) (ih (by omega)) (fun k hk=>⟨by have:=hct k hk;omega,fun j hj=>((hct k hk).2 j hj).2⟩) (os.length-(i+1)) (by omega)
    rw[txI];omega
set_option maxRecDepth 20000 in
set_option maxHeartbeats 8000000 in
theorem impl_presentationText_pos (os:List Int) (pw:List (List Int)) (cj:List (List (List Int))) (h:presOk os pw cj) (hpos:0<os.length):ACp Tryz.prog 63 [prsP os pw cj] (.s (ofL (txC os pw cj))):=by
 have hn6:=h.1.1
 obtain⟨ho,hp,hc⟩:=h.ent
 have z2:(#[(94:UInt8)]:Array UInt8).size=1:=rfl
 have z3:(#[(61:UInt8)]:Array UInt8).size=1:=rfl
 have hpl:=h.1.2.1
 have hcl:=h.1.2.2
 refine ACp.intro' envOk Tryz.func63 rfl (by kernel_rfl) Tryz.ntmps63 Tryz.results63 (.s _) (fun nx cX=> ?_)
 refine AW.sr envOk (fun N hN=> ?_)
 simp-dsimp-implicitDefEqProofs (disch:=(first|omega|((repeat refine LC.upd (by omega) ?_);assumption))) only[go_sem,undef,prsP,ints,rows,cubes,gd_i,gd_r,gd_c,w64,cat_b,ofL_sz,one_sx]
 refine hN _ ?_
 try clear hN N
 refine AW.sr envOk (fun N hN=> ?_)
 simp-dsimp-implicitDefEqProofs (disch:=(first|omega|((repeat refine LC.upd (by omega) ?_);assumption))) only[go_sem,undef,prsP,ints,rows,cubes,gd_i,gd_r,gd_c,w64,cat_b,ofL_sz,one_sx]
 refine hN _ ?_
 try clear hN N
 refine AW.seq (fun N1 hN1=> ?_)
 refine AW.sr envOk (fun N hN=> ?_)
 simp-dsimp-implicitDefEqProofs (disch:=(first|omega|((repeat refine LC.upd (by omega) ?_);assumption))) only[go_sem,undef,prsP,ints,rows,cubes,gd_i,gd_r,gd_c,w64,cat_b,ofL_sz,one_sx]
 refine hN _ ?_
 try clear hN N
 refine AW.block ?_
 refine AW.loopN (α:=Nat×HP×AV) (fun x=>sl 115 [(0,prsP os pw cj),(3,x.2.2),(16,ints os),(17,.i .i64 os.length),(18,.i .i64 x.1)]) (fun x=>x.2.1) (fun x m=>x.1≤os.length∧nx≤m∧LC x.2.1 nx m x.2.2 (strc ((os.take x.1).map dgL))) (fun x=>os.length-x.1) ((0,noH,.nl)) ?_ ?_ (fun _ _ h=>h) ?_
 ·exact⟨by simp,by first|omega|(simp only;omega)|(dsimp only;omega),.nil⟩
 ·simp(disch:=omega) [wks,wkA,sl,prsP,ints,rows,cubes]
 ·skip
  rintro⟨k,G,L⟩ b0 ⟨hk,hm,hL⟩
  simp-dsimp-implicitDefEqProofs (disch:=(first|omega|((repeat refine LC.upd (by omega) ?_);assumption))) only[go_sem,undef]
  dsimp only at hk hm hL ⊢
  have hLo:=hL.one
  have hLl:=hL.len
  simp only[prsP]
  refine AW.sr envOk (fun N hN=> ?_)
  simp-dsimp-implicitDefEqProofs (disch:=(first|omega|((repeat refine LC.upd (by omega) ?_);assumption))) only[go_sem,undef,prsP,ints,rows,cubes,gd_i,gd_r,gd_c,w64,cat_b,ofL_sz,one_sx]
  refine hN _ ?_
  try clear hN N
  refine AW.seq (fun N2 hN2=> ?_)
  refine AW.cond rfl (fun h1=> ?_) (fun h1=> ?_)
  ·try simp only[cn]at h1
   have hko:=ho k (by omega)
   have hcl0:(strc ((os.take k).map dgL)).length=k:=by rw[strc_len,List.length_map,List.length_take];omega
   have htk:os.take (k+1)=os.take k++[os.getD k 0]:=by
    rw[List.take_succ_eq_append_getElem (show k<os.length by omega)];simp[show k<os.length by omega]
   have hfi:=strconv_FormatInt_i (os.getD k 0) hko.1 (by omega)
   rw[dg_L]at hfi
   refine AW.skip ?_
   simp only[thn,blk]
   refine hN2 _ ?_
   try clear hN2 N2
   refine AW.seq (fun N3 hN3=> ?_)
   refine AW.block ?_
   refine AW.sr envOk (fun N hN=> ?_)
   simp-dsimp-implicitDefEqProofs (disch:=(first|omega|((repeat refine LC.upd (by omega) ?_);assumption))) only[go_sem,undef,prsP,ints,rows,cubes,gd_i,gd_r,gd_c,w64,cat_b,ofL_sz,one_sx]
   refine hN _ ?_
   try clear hN N
   refine AW.regionL envOk ?_
   simp-dsimp-implicitDefEqProofs (disch:=(first|omega|((repeat refine LC.upd (by omega) ?_);assumption))) only[go_sem,undef,prsP,ints,rows,cubes,gd_i,gd_r,gd_c,w64,cat_b,ofL_sz,one_sx]
   refine AC.pure (.of (hfi)) ?_
   try simp-dsimp-implicitDefEqProofs (disch:=(first|omega|((repeat refine LC.upd (by omega) ?_);assumption))) only[go_sem,undef,prsP,w64,one_sx,hLo,hLl,hcl0,apst_LC (a:=nx) (b:=b0) (L:=L) (cs:=strc ((os.take k).map dgL))]
   refine hN3 _ ?_
   try clear hN3 N3
   refine AW.nameH (fun G3 hG3=> ?_)
   dsimp only at hG3
   refine AW.regionL envOk ?_
   simp-dsimp-implicitDefEqProofs (disch:=(first|omega|((repeat refine LC.upd (by omega) ?_);assumption))) only[go_sem,undef,prsP,ints,rows,cubes,gd_i,gd_r,gd_c,w64,cat_b,ofL_sz,one_sx]
   refine⟨(k+1,G3,.h (b0+1+3+4) 0 (k+1)),?_,fun _ _ h=>h,?_,?_⟩
   ·simp(disch:=omega) [wks,wkA,sl,w64,ints,rows,cubes,prsP,ints,rows,cubes,gd_i,gd_r,gd_c,w64,cat_b,ofL_sz,one_sx]<;>omega
   ·have hmk:LC G3 nx (b0+1+3+5) (.h (b0+1+3+4) 0 (k+1)) (strc ((os.take (k+1)).map dgL)):=LC.mk (by rw[←hG3,htk,List.map_append,List.map_cons,List.map_nil,strc_app];simp(disch:=omega) only[upd_same]) (by rw[strc_len,List.length_map,List.length_take];omega) (by omega) (by omega)
    have hmk2:=hmk.wide (Nat.le_refl _) (show b0+1+3+5≤b0+1+3+6+2 by omega)
    first|exact⟨by first|omega|(simp only;omega)|(dsimp only;omega),by first|omega|(simp only;omega)|(dsimp only;omega),hmk2⟩|exact⟨by first|omega|(simp only;omega)|(dsimp only;omega),hmk2⟩
   ·first|omega|(simp only;omega)
  ·try simp only[cn]at h1
   have hke:k=os.length:=by omega
   rw[hke,List.take_length]at hL
   have hlen0:(strc (os.map dgL)).length=os.length:=by rw[strc_len,List.length_map]
   obtain⟨id0,rfl,hid0,hid1,hid2⟩:∃id,L= .h id 0 os.length∧G id=some (strc (os.map dgL))∧nx≤id∧id<b0:=by
    rcases hL with ⟨_,e⟩|⟨id,e,e2,e3,e4⟩
    ·rw[e]at hlen0;simp at hlen0;omega
    ·exact⟨id,by rw[e,hlen0],e2,e3,e4⟩
   refine AW.exit ?_
   simp only[thn,blk,if_true]
   refine hN1 _ ?_
   try clear hN1 N1
   refine AW.seq (fun N4 hN4=> ?_)
   refine AW.sr envOk (fun N hN=> ?_)
   simp-dsimp-implicitDefEqProofs (disch:=(first|omega|((repeat refine LC.upd (by omega) ?_);assumption))) only[go_sem,undef,prsP,ints,rows,cubes,gd_i,gd_r,gd_c,w64,cat_b,ofL_sz,one_sx]
   refine hN _ ?_
   try clear hN N
   refine AW.cond rfl (fun h2=> ?_) (fun h2=> ?_)
   ·try simp only[cn]at h2
    omega
   ·try simp only[cn]at h2
    have htj:=txO_join (os:=os) (os.length-1) (by omega)
    rw[show os.length-1+1=os.length by omega,List.take_length]at htj
    have htl:=txO_len ho os.length (Nat.le_refl _)
    have hjn:=strings_Join_L (os.map dgL) [32] (by rw[List.length_map];omega) (by rw[←htj];omega)
    rw[←htj]at hjn
    refine AW.skip ?_
    simp only[thn,blk]
    refine hN4 _ ?_
    try clear hN4 N4
    refine AW.sr envOk (fun N hN=> ?_)
    simp-dsimp-implicitDefEqProofs (disch:=(first|omega|((repeat refine LC.upd (by omega) ?_);assumption))) only[go_sem,undef,prsP,ints,rows,cubes,gd_i,gd_r,gd_c,w64,cat_b,ofL_sz,one_sx]
    refine AC.pure (.lent (hjn) (.cons (Vw.strc hid0 (by simp)) (.cons (.refl _) .nil)) (.s _)) ?_
    try simp-dsimp-implicitDefEqProofs (disch:=(first|omega|((repeat refine LC.upd (by omega) ?_);assumption))) only[go_sem,undef,prsP,ints,rows,cubes,gd_i,gd_r,gd_c,w64,cat_b,ofL_sz,one_sx]
    refine hN _ ?_
    try clear hN N
    refine AW.seq (fun N5 hN5=> ?_)
    refine AW.sr envOk (fun N hN=> ?_)
    simp-dsimp-implicitDefEqProofs (disch:=(first|omega|((repeat refine LC.upd (by omega) ?_);assumption))) only[go_sem,undef,prsP,ints,rows,cubes,gd_i,gd_r,gd_c,w64,cat_b,ofL_sz,one_sx]
    refine hN _ ?_
    try clear hN N
    refine AW.block ?_
    refine AW.freeze 3 id0 os.length (strc (os.map dgL)) rfl (by simp(disch:=omega) only[upd_ne];exact hid0) hlen0 ?_
    refine AW.nameH (fun G5 hG5=> ?_)
    dsimp only at hG5
    have hL5:LC G5 (b0+1) (b0+1+3+3) (.h (b0+1+3+2) 0 1) (strc (txO os os.length::pP os pw 0)):=LC.mk (by rw[←hG5];simp(disch:=omega) only[upd_same,upd_ne];rfl) rfl (by omega) (by omega)
    refine AW.loopN (α:=Nat×HP×AV) (fun x=>sl 115 [(0,prsP os pw cj),(3,.v os.length (strc (os.map dgL))),(6,x.2.2),(38,rows pw),(39,.i .i64 pw.length),(40,.i .i64 x.1)]) (fun x=>x.2.1) (fun x m=>x.1≤os.length∧b0≤m∧LC x.2.1 b0 m x.2.2 (strc (txO os os.length::pP os pw x.1))) (fun x=>os.length-x.1) ((0,G5,.h (b0+1+3+2) 0 1)) ?_ ?_ (fun _ _ h=>h) ?_
    ·exact⟨by simp,by first|omega|(simp only;omega)|(dsimp only;omega),hL5.wide (by omega) (by first|omega|(simp only;omega)|(dsimp only;omega))⟩
    ·simp(disch:=omega) [wks,wkA,sl,prsP,ints,rows,cubes]
    ·skip
     rintro⟨k,G7,L7⟩ m7 ⟨hk7,hm7,hL7⟩
     simp-dsimp-implicitDefEqProofs (disch:=(first|omega|((repeat refine LC.upd (by omega) ?_);assumption))) only[go_sem,undef]
     dsimp only at hk7 hm7 hL7 ⊢
     have hL7o:=hL7.one
     have hL7l:=hL7.len
     simp only[prsP]
     refine AW.sr envOk (fun N hN=> ?_)
     simp-dsimp-implicitDefEqProofs (disch:=(first|omega|((repeat refine LC.upd (by omega) ?_);assumption))) only[go_sem,undef,prsP,ints,rows,cubes,gd_i,gd_r,gd_c,w64,cat_b,ofL_sz,one_sx]
     refine hN _ ?_
     try clear hN N
     refine AW.seq (fun N6 hN6=> ?_)
     refine AW.cond rfl (fun h3=> ?_) (fun h3=> ?_)
     ·try simp only[cn]at h3
      have hko:=ho k (by omega)
      have hpk:=hp k (by omega)
      have hwl:=wdN_len (e:=pw.getD k []) (fun j hj=>(hpk.2 j hj).2) _ (Nat.le_refl _)
      have hfr:AV.v os.length (strc (os.map dgL))=strs ((os.map dgL).map ofL):=by rw[strs];simp[strc]
      refine AW.skip ?_
      simp only[thn,blk]
      refine hN6 _ ?_
      try clear hN6 N6
      refine AW.seq (fun N7 hN7=> ?_)
      refine AW.block ?_
      refine AW.sr envOk (fun N hN=> ?_)
      simp-dsimp-implicitDefEqProofs (disch:=(first|omega|((repeat refine LC.upd (by omega) ?_);assumption))) only[go_sem,undef,prsP,ints,rows,cubes,gd_i,gd_r,gd_c,w64,cat_b,ofL_sz,one_sx]
      refine hN _ ?_
      try clear hN N
      refine AW.sr envOk (fun N hN=> ?_)
      simp-dsimp-implicitDefEqProofs (disch:=(first|omega|((repeat refine LC.upd (by omega) ?_);assumption))) only[go_sem,undef,prsP,ints,rows,cubes,gd_i,gd_r,gd_c,w64,cat_b,ofL_sz,one_sx]
      refine AC.pure (.of (impl_isZero_ok (pw.getD k []) (by omega))) ?_
      try simp-dsimp-implicitDefEqProofs (disch:=(first|omega|((repeat refine LC.upd (by omega) ?_);assumption))) only[go_sem,undef,prsP,ints,rows,cubes,gd_i,gd_r,gd_c,w64,cat_b,ofL_sz,one_sx]
      refine hN _ ?_
      try clear hN N
      refine AW.cond rfl (fun h4=> ?_) (fun h4=> ?_)
      ·try simp only[cn]at h4
       have hz:¬zC (pw.getD k [])=true:=fun e=>h4 (zC_iff.1 e)
       have hdl:=dgL_len hko.1 hko.2
       have hll:=letC_len k
       have hwx:=wtx_size (wdN (pw.getD k []) (pw.getD k []).length)
       have hgs:(strc (os.map dgL)).getD k .j= .s (ofL (dgL (os.getD k 0))):=by
        rw[gd_st (by rw[List.length_map];omega)];simp[show k<os.length by omega]
       have he:=catR k (dgL (os.getD k 0)) (pw.getD k [])
       have hcl7:(strc (txO os os.length::pP os pw k)).length=(pP os pw k).length+1:=by rw[strc_len];rfl
       have hpp:pP os pw (k+1)=pP os pw k++[rR k (dgL (os.getD k 0)) (pw.getD k [])]:=by rw[pP,if_neg hz]
       have hpn:=pP_n (os:=os) (pw:=pw) k
       refine AW.drawL envOk (by kernel_rfl) 15 (by kernel_rfl) ?_
       simp-dsimp-implicitDefEqProofs (disch:=(first|omega|((repeat refine LC.upd (by omega) ?_);assumption))) only[hr_nil,hr_one,hr_if,List.take_succ_cons,List.take_zero,List.drop_succ_cons,List.drop_zero,List.take_nil,List.drop_nil,go_sem,undef,prsP,ints,rows,cubes,gd_i,gd_r,gd_c,w64,cat_b,ofL_sz,one_sx,hgs]
       refine⟨_,.of (impl_letterOf_ok k (by omega)),?_⟩
       try simp-dsimp-implicitDefEqProofs (disch:=(first|omega|((repeat refine LC.upd (by omega) ?_);assumption))) only[go_sem,undef,prsP,ints,rows,cubes,gd_i,gd_r,gd_c,w64,cat_b,ofL_sz,one_sx,hgs]
       refine⟨_,.of (impl_normalWord_ok (pw.getD k []) (by omega) hpk.2),?_⟩
       try simp-dsimp-implicitDefEqProofs (disch:=(first|omega|((repeat refine LC.upd (by omega) ?_);assumption))) only[go_sem,undef,prsP,ints,rows,cubes,gd_i,gd_r,gd_c,w64,cat_b,ofL_sz,one_sx]
       refine⟨_,.of (impl_wordText_ok (wdN (pw.getD k []) (pw.getD k []).length) (by omega)),?_⟩
       try simp-dsimp-implicitDefEqProofs (disch:=(first|omega|((repeat refine LC.upd (by omega) ?_);assumption))) only[go_sem,undef,prsP,w64,one_sx,cat_b,ofL_sz,hgs,he,hL7o,hL7l,hcl7,apst_LC (a:=b0) (b:=m7) (L:=L7) (cs:=strc (txO os os.length::pP os pw k))]
       refine hN7 _ ?_
       try clear hN7 N7
       refine AW.nameH (fun G8 hG8=> ?_)
       dsimp only at hG8
       refine AW.regionL envOk ?_
       simp-dsimp-implicitDefEqProofs (disch:=(first|omega|((repeat refine LC.upd (by omega) ?_);assumption))) only[go_sem,undef,prsP,ints,rows,cubes,gd_i,gd_r,gd_c,w64,cat_b,ofL_sz,one_sx]
       refine⟨(k+1,G8,.h (m7+1+5+3+15) 0 ((pP os pw k).length+1+1)),?_,fun _ _ h=>h,?_,?_⟩
       ·simp(disch:=omega) [wks,wkA,sl,w64,ints,rows,cubes,prsP,ints,rows,cubes,gd_i,gd_r,gd_c,w64,cat_b,ofL_sz,one_sx]<;>omega
       ·have hmk:LC G8 b0 (m7+1+5+3+16) (.h (m7+1+5+3+15) 0 ((pP os pw k).length+1+1)) (strc (txO os os.length::pP os pw (k+1))):=LC.mk (by rw[←hG8,hpp,←List.cons_append,strc_app];simp(disch:=omega) only[upd_same]) (by rw[strc_len,hpp];simp) (by omega) (by omega)
        have hmk2:=hmk.wide (Nat.le_refl _) (show m7+1+5+3+16≤m7+1+5+3+17+2 by omega)
        first|exact⟨by first|omega|(simp only;omega)|(dsimp only;omega),by first|omega|(simp only;omega)|(dsimp only;omega),hmk2⟩|exact⟨by first|omega|(simp only;omega)|(dsimp only;omega),hmk2⟩
       ·first|omega|(simp only;omega)
      ·try simp only[cn]at h4
       have hz:zC (pw.getD k [])=true:=zC_iff.2 h4
       have hpp:pP os pw (k+1)=pP os pw k:=by rw[pP,if_pos hz]
       refine AW.skip ?_
       simp only[thn,blk]
       refine hN7 _ ?_
       try clear hN7 N7
       refine AW.nameH (fun G8 hG8=> ?_)
       dsimp only at hG8
       refine AW.regionL envOk ?_
       simp-dsimp-implicitDefEqProofs (disch:=(first|omega|((repeat refine LC.upd (by omega) ?_);assumption))) only[go_sem,undef,prsP,ints,rows,cubes,gd_i,gd_r,gd_c,w64,cat_b,ofL_sz,one_sx]
       refine⟨(k+1,G8,L7),?_,fun _ _ h=>h,?_,?_⟩
       ·simp(disch:=omega) [wks,wkA,sl,w64,ints,rows,cubes,prsP,ints,rows,cubes,gd_i,gd_r,gd_c,w64,cat_b,ofL_sz,one_sx]<;>omega
       ·have hmk2:=((by rw[hpp,←hG8];exact hL7):LC G8 b0 m7 L7 (strc (txO os os.length::pP os pw (k+1)))).wide (Nat.le_refl _) (show m7≤m7+1+5+3+2 by omega)
        first|exact⟨by first|omega|(simp only;omega)|(dsimp only;omega),by first|omega|(simp only;omega)|(dsimp only;omega),hmk2⟩|exact⟨by first|omega|(simp only;omega)|(dsimp only;omega),hmk2⟩
       ·first|omega|(simp only;omega)
     ·try simp only[cn]at h3
      have hke:k=os.length:=by omega
      rw[hke]at hL7
      refine AW.exit ?_
      simp only[thn,blk,if_true]
      refine hN5 _ ?_
      try clear hN5 N5
      refine AW.seq (fun N8 hN8=> ?_)
      refine AW.sr envOk (fun N hN=> ?_)
      simp-dsimp-implicitDefEqProofs (disch:=(first|omega|((repeat refine LC.upd (by omega) ?_);assumption))) only[go_sem,undef,prsP,ints,rows,cubes,gd_i,gd_r,gd_c,w64,cat_b,ofL_sz,one_sx]
      refine hN _ ?_
      try clear hN N
      refine AW.block ?_
      refine AW.loopN (α:=Nat×HP×AV) (fun x=>sl 115 [(0,prsP os pw cj),(6,x.2.2),(69,.i .i64 os.length),(70,.i .i64 x.1)]) (fun x=>x.2.1) (fun x m=>x.1≤os.length∧b0≤m∧LC x.2.1 b0 m x.2.2 (strc (txO os os.length::pI os pw cj x.1))) (fun x=>os.length-x.1) ((0,G7,L7)) ?_ ?_ (fun _ _ h=>h) ?_
      ·exact⟨by simp,by first|omega|(simp only;omega)|(dsimp only;omega),hL7.wide (Nat.le_refl _) (by first|omega|(simp only;omega)|(dsimp only;omega))⟩
      ·simp(disch:=omega) [wks,wkA,sl,prsP,ints,rows,cubes]
      ·skip
       rintro⟨i,G9,L9⟩ m9 ⟨hk9,hm9,hL9⟩
       simp-dsimp-implicitDefEqProofs (disch:=(first|omega|((repeat refine LC.upd (by omega) ?_);assumption))) only[go_sem,undef]
       dsimp only at hk9 hm9 hL9 ⊢
       have hL9o:=hL9.one
       simp only[prsP]
       refine AW.sr envOk (fun N hN=> ?_)
       simp-dsimp-implicitDefEqProofs (disch:=(first|omega|((repeat refine LC.upd (by omega) ?_);assumption))) only[go_sem,undef,prsP,ints,rows,cubes,gd_i,gd_r,gd_c,w64,cat_b,ofL_sz,one_sx]
       refine hN _ ?_
       try clear hN N
       refine AW.seq (fun N9 hN9=> ?_)
       refine AW.cond rfl (fun h5=> ?_) (fun h5=> ?_)
       ·try simp only[cn]at h5
        obtain⟨hci,hct⟩:=hc i (by omega)
        refine AW.skip ?_
        simp only[thn,blk]
        refine hN9 _ ?_
        try clear hN9 N9
        refine AW.seq (fun N10 hN10=> ?_)
        refine AW.block ?_
        refine AW.sr envOk (fun N hN=> ?_)
        simp-dsimp-implicitDefEqProofs (disch:=(first|omega|((repeat refine LC.upd (by omega) ?_);assumption))) only[go_sem,undef,prsP,ints,rows,cubes,gd_i,gd_r,gd_c,w64,cat_b,ofL_sz,one_sx]
        refine hN _ ?_
        try clear hN N
        refine AW.sr envOk (fun N hN=> ?_)
        simp-dsimp-implicitDefEqProofs (disch:=(first|omega|((repeat refine LC.upd (by omega) ?_);assumption))) only[go_sem,undef,prsP,ints,rows,cubes,gd_i,gd_r,gd_c,w64,cat_b,ofL_sz,one_sx]
        refine hN _ ?_
        try clear hN N
        refine AW.block ?_
        refine AW.loopN (α:=Nat×HP×AV) (fun x=>sl 115 [(0,prsP os pw cj),(6,x.2.2),(9,.i .i64 i),(69,.i .i64 os.length),(70,.i .i64 i),(79,rows (cj.getD i [])),(80,.i .i64 (cj.getD i []).length),(81,.i .i64 x.1)]) (fun x=>x.2.1) (fun x m=>x.1≤(cj.getD i []).length∧m9≤m∧LC x.2.1 b0 m x.2.2 (strc (txO os os.length::pJ os.length i (cj.getD i []) (pI os pw cj i) x.1))) (fun x=>(cj.getD i []).length-x.1) ((0,G9,L9)) ?_ ?_ (fun _ _ h=>h) ?_
        ·exact⟨by simp,by first|omega|(simp only;omega)|(dsimp only;omega),hL9.wide (Nat.le_refl _) (by first|omega|(simp only;omega)|(dsimp only;omega))⟩
        ·simp(disch:=omega) [wks,wkA,sl,prsP,ints,rows,cubes]
        ·skip
         rintro⟨t,G10,L10⟩ m10 ⟨hk10,hm10,hL10⟩
         simp-dsimp-implicitDefEqProofs (disch:=(first|omega|((repeat refine LC.upd (by omega) ?_);assumption))) only[go_sem,undef]
         dsimp only at hk10 hm10 hL10 ⊢
         have hL10o:=hL10.one
         have hL10l:=hL10.len
         simp only[prsP]
         refine AW.sr envOk (fun N hN=> ?_)
         simp-dsimp-implicitDefEqProofs (disch:=(first|omega|((repeat refine LC.upd (by omega) ?_);assumption))) only[go_sem,undef,prsP,ints,rows,cubes,gd_i,gd_r,gd_c,w64,cat_b,ofL_sz,one_sx]
         refine hN _ ?_
         try clear hN N
         refine AW.seq (fun N11 hN11=> ?_)
         refine AW.cond rfl (fun h6=> ?_) (fun h6=> ?_)
         ·try simp only[cn]at h6
          have ht2:t<(cj.getD i []).length:=by omega
          obtain⟨hel,hev⟩:=hct t ht2
          have hwl:=wdN_len (e:=(cj.getD i []).getD t []) (fun j hj=>(hev j hj).2) _ (Nat.le_refl _)
          have hwx:=wtx_size (wdN ((cj.getD i []).getD t []) ((cj.getD i []).getD t []).length)
          have hll:=letC_len (i+1+t)
          have hll2:=letC_len i
          have e1:((i:Int)+1+(t:Int))=((i+1+t:Nat):Int):=by omega
          have he:=catR (i+1+t) (letC i) ((cj.getD i []).getD t [])
          have hcl10:(strc (txO os os.length::pJ os.length i (cj.getD i []) (pI os pw cj i) t)).length=(pJ os.length i (cj.getD i []) (pI os pw cj i) t).length+1:=by rw[strc_len];rfl
          have hpn:=pJ_n (n:=os.length) (i:=i) (c:=cj.getD i []) (acc:=pI os pw cj i) t
          have hpn2:=pI_n (pw:=pw) (cj:=cj) hn6 i
          refine AW.skip ?_
          simp only[thn,blk]
          refine hN11 _ ?_
          try clear hN11 N11
          refine AW.seq (fun N12 hN12=> ?_)
          refine AW.block ?_
          refine AW.sr envOk (fun N hN=> ?_)
          simp-dsimp-implicitDefEqProofs (disch:=(first|omega|((repeat refine LC.upd (by omega) ?_);assumption))) only[go_sem,undef,prsP,ints,rows,cubes,gd_i,gd_r,gd_c,w64,cat_b,ofL_sz,one_sx]
          refine hN _ ?_
          try clear hN N
          refine AW.sr envOk (fun N hN=> ?_)
          simp-dsimp-implicitDefEqProofs (disch:=(first|omega|((repeat refine LC.upd (by omega) ?_);assumption))) only[go_sem,undef,prsP,ints,rows,cubes,gd_i,gd_r,gd_c,w64,cat_b,ofL_sz,one_sx,e1]
          refine hN _ ?_
          try clear hN N
          refine AW.sr envOk (fun N hN=> ?_)
          simp-dsimp-implicitDefEqProofs (disch:=(first|omega|((repeat refine LC.upd (by omega) ?_);assumption))) only[go_sem,undef,prsP,ints,rows,cubes,gd_i,gd_r,gd_c,w64,cat_b,ofL_sz,one_sx]
          refine AC.pure (.of (impl_unitVector_u ((cj.getD i []).getD t []).length (i+1+t) (by omega) (by omega))) ?_
          try simp-dsimp-implicitDefEqProofs (disch:=(first|omega|((repeat refine LC.upd (by omega) ?_);assumption))) only[go_sem,undef,prsP,ints,rows,cubes,gd_i,gd_r,gd_c,w64,cat_b,ofL_sz,one_sx]
          refine AC.pure (.of (slices_Equal_int64_int64_ok ((cj.getD i []).getD t []) (unL ((cj.getD i []).getD t []).length (i+1+t)) (by omega) (by rw[unL_len];omega))) ?_
          try simp-dsimp-implicitDefEqProofs (disch:=(first|omega|((repeat refine LC.upd (by omega) ?_);assumption))) only[go_sem,undef,prsP,ints,rows,cubes,gd_i,gd_r,gd_c,w64,cat_b,ofL_sz,one_sx]
          refine hN _ ?_
          try clear hN N
          refine AW.cond rfl (fun h7=> ?_) (fun h7=> ?_)
          ·try simp only[cn]at h7
           have hpp:pJ os.length i (cj.getD i []) (pI os pw cj i) (t+1)=pJ os.length i (cj.getD i []) (pI os pw cj i) t++[rR (i+1+t) (letC i) ((cj.getD i []).getD t [])]:=by rw[hel]at h7;rw[pJ,if_neg h7]
           refine AW.regionL envOk ?_
           simp-dsimp-implicitDefEqProofs (disch:=(first|omega|((repeat refine LC.upd (by omega) ?_);assumption))) only[go_sem,undef,prsP,ints,rows,cubes,gd_i,gd_r,gd_c,w64,cat_b,ofL_sz,one_sx]
           refine AC.pure (.of (impl_letterOf_ok (i+1+t) (by omega))) ?_
           try simp-dsimp-implicitDefEqProofs (disch:=(first|omega|((repeat refine LC.upd (by omega) ?_);assumption))) only[go_sem,undef,prsP,ints,rows,cubes,gd_i,gd_r,gd_c,w64,cat_b,ofL_sz,one_sx]
           refine AC.pure (.of (impl_letterOf_ok i (by omega))) ?_
           try simp-dsimp-implicitDefEqProofs (disch:=(first|omega|((repeat refine LC.upd (by omega) ?_);assumption))) only[go_sem,undef,prsP,ints,rows,cubes,gd_i,gd_r,gd_c,w64,cat_b,ofL_sz,one_sx]
           refine AC.pure (.of (impl_normalWord_ok ((cj.getD i []).getD t []) (by omega) hev)) ?_
           try simp-dsimp-implicitDefEqProofs (disch:=(first|omega|((repeat refine LC.upd (by omega) ?_);assumption))) only[go_sem,undef,prsP,ints,rows,cubes,gd_i,gd_r,gd_c,w64,cat_b,ofL_sz,one_sx]
           refine AC.pure (.of (impl_wordText_ok (wdN ((cj.getD i []).getD t []) ((cj.getD i []).getD t []).length) (by omega))) ?_
           try simp-dsimp-implicitDefEqProofs (disch:=(first|omega|((repeat refine LC.upd (by omega) ?_);assumption))) only[go_sem,undef,prsP,w64,one_sx,cat_b,ofL_sz,he,hL10o,hL10l,hcl10,apst_LC (a:=b0) (b:=m10) (L:=L10) (cs:=strc (txO os os.length::pJ os.length i (cj.getD i []) (pI os pw cj i) t))]
           refine hN12 _ ?_
           try clear hN12 N12
           refine AW.nameH (fun G11 hG11=> ?_)
           dsimp only at hG11
           refine AW.regionL envOk ?_
           simp-dsimp-implicitDefEqProofs (disch:=(first|omega|((repeat refine LC.upd (by omega) ?_);assumption))) only[go_sem,undef,prsP,ints,rows,cubes,gd_i,gd_r,gd_c,w64,cat_b,ofL_sz,one_sx]
           refine⟨(t+1,G11,.h (m10+1+5+5+7+13) 0 ((pJ os.length i (cj.getD i []) (pI os pw cj i) t).length+1+1)),?_,fun _ _ h=>h,?_,?_⟩
           ·simp(disch:=omega) [wks,wkA,sl,w64,ints,rows,cubes,prsP,ints,rows,cubes,gd_i,gd_r,gd_c,w64,cat_b,ofL_sz,one_sx]<;>omega
           ·have hmk:LC G11 b0 (m10+1+5+5+7+14) (.h (m10+1+5+5+7+13) 0 ((pJ os.length i (cj.getD i []) (pI os pw cj i) t).length+1+1)) (strc (txO os os.length::pJ os.length i (cj.getD i []) (pI os pw cj i) (t+1))):=LC.mk (by rw[←hG11,hpp,←List.cons_append,strc_app];simp(disch:=omega) only[upd_same]) (by rw[strc_len,hpp];simp) (by omega) (by omega)
            have hmk2:=hmk.wide (Nat.le_refl _) (show m10+1+5+5+7+14≤m10+1+5+5+7+15+2 by omega)
            first|exact⟨by first|omega|(simp only;omega)|(dsimp only;omega),by first|omega|(simp only;omega)|(dsimp only;omega),hmk2⟩|exact⟨by first|omega|(simp only;omega)|(dsimp only;omega),hmk2⟩
           ·first|omega|(simp only;omega)
          ·try simp only[cn]at h7
           have hpp:pJ os.length i (cj.getD i []) (pI os pw cj i) (t+1)=pJ os.length i (cj.getD i []) (pI os pw cj i) t:=by rw[hel]at h7;rw[pJ,if_pos h7]
           refine AW.skip ?_
           simp only[thn,blk]
           refine hN12 _ ?_
           try clear hN12 N12
           refine AW.nameH (fun G11 hG11=> ?_)
           dsimp only at hG11
           refine AW.regionL envOk ?_
           simp-dsimp-implicitDefEqProofs (disch:=(first|omega|((repeat refine LC.upd (by omega) ?_);assumption))) only[go_sem,undef,prsP,ints,rows,cubes,gd_i,gd_r,gd_c,w64,cat_b,ofL_sz,one_sx]
           refine⟨(t+1,G11,L10),?_,fun _ _ h=>h,?_,?_⟩
           ·simp(disch:=omega) [wks,wkA,sl,w64,ints,rows,cubes,prsP,ints,rows,cubes,gd_i,gd_r,gd_c,w64,cat_b,ofL_sz,one_sx]<;>omega
           ·have hmk2:=((by rw[hpp,←hG11];exact hL10):LC G11 b0 m10 L10 (strc (txO os os.length::pJ os.length i (cj.getD i []) (pI os pw cj i) (t+1)))).wide (Nat.le_refl _) (show m10≤m10+1+5+5+7+2 by omega)
            first|exact⟨by first|omega|(simp only;omega)|(dsimp only;omega),by first|omega|(simp only;omega)|(dsimp only;omega),hmk2⟩|exact⟨by first|omega|(simp only;omega)|(dsimp only;omega),hmk2⟩
           ·first|omega|(simp only;omega)
         ·try simp only[cn]at h6
          have hte:t=os.length-(i+1):=by omega
          have hpi:pI os pw cj (i+1)=pJ os.length i (cj.getD i []) (pI os pw cj i) t:=by rw[pI,hte]
          refine AW.exit ?_
          simp only[thn,blk,if_true]
          refine hN10 _ ?_
          try clear hN10 N10
          refine AW.regionL envOk ?_
          simp-dsimp-implicitDefEqProofs (disch:=(first|omega|((repeat refine LC.upd (by omega) ?_);assumption))) only[go_sem,undef,prsP,ints,rows,cubes,gd_i,gd_r,gd_c,w64,cat_b,ofL_sz,one_sx]
          refine⟨(i+1,G10,L10),?_,fun _ _ h=>h,?_,?_⟩
          ·simp(disch:=omega) [wks,wkA,sl,w64,ints,rows,cubes,prsP,ints,rows,cubes,gd_i,gd_r,gd_c,w64,cat_b,ofL_sz,one_sx]<;>omega
          ·have hmk2:=((by rw[hpi];exact hL10):LC G10 b0 m10 L10 (strc (txO os os.length::pI os pw cj (i+1)))).wide (Nat.le_refl _) (show m10≤m10+1+2 by omega)
           first|exact⟨by first|omega|(simp only;omega)|(dsimp only;omega),by first|omega|(simp only;omega)|(dsimp only;omega),hmk2⟩|exact⟨by first|omega|(simp only;omega)|(dsimp only;omega),hmk2⟩
          ·first|omega|(simp only;omega)
       ·try simp only[cn]at h5
        have hie:i=os.length:=by omega
        rw[hie]at hL9
        have hjx:Lib.join (txO os os.length::pI os pw cj os.length) [59,32]=txI os pw cj os.length:=by rw[Lib.join_cons,pI_tx]
        have htl:=txI_len h os.length (Nat.le_refl _)
        have hpn:=pI_n (pw:=pw) (cj:=cj) hn6 os.length
        have hjn:=strings_Join_L (txO os os.length::pI os pw cj os.length) [59,32] (by rw[List.length_cons];omega) (by rw[hjx];omega)
        rw[hjx]at hjn
        refine AW.exit ?_
        simp only[thn,blk,if_true]
        refine hN8 _ ?_
        try clear hN8 N8
        refine AW.sr envOk (fun N hN=> ?_)
        simp-dsimp-implicitDefEqProofs (disch:=(first|omega|((repeat refine LC.upd (by omega) ?_);assumption))) only[go_sem,undef,prsP,ints,rows,cubes,gd_i,gd_r,gd_c,w64,cat_b,ofL_sz,one_sx]
        refine AC.pure (.lent (hjn) (.cons (Vw.strcL hL9) (.cons (.refl _) .nil)) (.s _)) ?_
        try simp-dsimp-implicitDefEqProofs (disch:=(first|omega|((repeat refine LC.upd (by omega) ?_);assumption))) only[go_sem,undef,prsP,ints,rows,cubes,gd_i,gd_r,gd_c,w64,cat_b,ofL_sz,one_sx]
        refine hN _ ?_
        try clear hN N
        refine AW.ret ?_
        simp-dsimp-implicitDefEqProofs (disch:=(first|omega|((repeat refine LC.upd (by omega) ?_);assumption))) only[go_sem,undef]
        rw[txC,if_neg (by omega)]
set_option maxRecDepth 20000 in
set_option maxHeartbeats 4000000 in
theorem impl_presentationText_zero:ACp Tryz.prog 63 [prsP [] [] []] (.s (ofL [49])):=by
 have hj1:=strings_Join_L [[49]] [32] (by decide) (by decide)
 have hj2:=strings_Join_L [[49]] [59,32] (by decide) (by decide)
 rw[show Lib.join [[49]] [32]=[(49:UInt8)]from rfl]at hj1
 rw[show Lib.join [[49]] [59,32]=[(49:UInt8)]from rfl]at hj2
 refine ACp.intro' envOk Tryz.func63 rfl (by kernel_rfl) Tryz.ntmps63 Tryz.results63 (.s _) (fun nx cX=> ?_)
 refine AW.sr envOk (fun N hN=> ?_)
 simp-dsimp-implicitDefEqProofs (disch:=(first|omega|((repeat refine LC.upd (by omega) ?_);assumption))) only[go_sem,undef,prsP,ints,rows,cubes,w64,one_sx]
 refine hN _ ?_
 try clear hN N
 refine AW.sr envOk (fun N hN=> ?_)
 simp-dsimp-implicitDefEqProofs (disch:=(first|omega|((repeat refine LC.upd (by omega) ?_);assumption))) only[go_sem,undef,prsP,ints,rows,cubes,w64,one_sx]
 refine hN _ ?_
 try clear hN N
 refine AW.seq (fun N1 hN1=> ?_)
 refine AW.sr envOk (fun N hN=> ?_)
 simp-dsimp-implicitDefEqProofs (disch:=(first|omega|((repeat refine LC.upd (by omega) ?_);assumption))) only[go_sem,undef,prsP,ints,rows,cubes,w64,one_sx]
 refine hN _ ?_
 try clear hN N
 refine AW.block ?_
 refine AW.loop1 ?_
 refine AW.sr envOk (fun N hN=> ?_)
 simp-dsimp-implicitDefEqProofs (disch:=(first|omega|((repeat refine LC.upd (by omega) ?_);assumption))) only[go_sem,undef,prsP,ints,rows,cubes,w64,one_sx]
 refine hN _ ?_
 try clear hN N
 refine AW.seq (fun N2 hN2=> ?_)
 refine AW.cond rfl (fun h=>absurd h (by first|(simp;done)|(simp only[decide_eq_true_eq];omega))) (fun _=> ?_)
 refine AW.exit ?_
 simp only[thn,blk,if_true]
 refine hN1 _ ?_
 try clear hN1 N1
 refine AW.seq (fun N3 hN3=> ?_)
 refine AW.sr envOk (fun N hN=> ?_)
 simp-dsimp-implicitDefEqProofs (disch:=(first|omega|((repeat refine LC.upd (by omega) ?_);assumption))) only[go_sem,undef,prsP,ints,rows,cubes,w64,one_sx]
 refine hN _ ?_
 try clear hN N
 refine AW.cond rfl (fun h1=> ?_) (fun h1=> ?_)
 ·try simp only[cn]at h1
  refine AW.regionL envOk ?_
  simp-dsimp-implicitDefEqProofs (disch:=(first|omega|((repeat refine LC.upd (by omega) ?_);assumption))) only[go_sem,undef,prsP,ints,rows,cubes,w64,one_sx]
  refine hN3 _ ?_
  try clear hN3 N3
  refine AW.sr envOk (fun N hN=> ?_)
  simp-dsimp-implicitDefEqProofs (disch:=(first|omega|((repeat refine LC.upd (by omega) ?_);assumption))) only[go_sem,undef,prsP,ints,rows,cubes,w64,one_sx]
  refine AC.pure (.lent (hj1) (.cons (Vw.strc (upd_same _ _ _) rfl) (.cons (.refl _) .nil)) (.s _)) ?_
  try simp-dsimp-implicitDefEqProofs (disch:=(first|omega|((repeat refine LC.upd (by omega) ?_);assumption))) only[go_sem,undef,prsP,ints,rows,cubes,w64,one_sx]
  refine hN _ ?_
  try clear hN N
  refine AW.seq (fun N4 hN4=> ?_)
  refine AW.sr envOk (fun N hN=> ?_)
  simp-dsimp-implicitDefEqProofs (disch:=(first|omega|((repeat refine LC.upd (by omega) ?_);assumption))) only[go_sem,undef,prsP,ints,rows,cubes,w64,one_sx]
  refine hN _ ?_
  try clear hN N
  refine AW.block ?_
  refine AW.loop1 ?_
  refine AW.sr envOk (fun N hN=> ?_)
  simp-dsimp-implicitDefEqProofs (disch:=(first|omega|((repeat refine LC.upd (by omega) ?_);assumption))) only[go_sem,undef,prsP,ints,rows,cubes,w64,one_sx]
  refine hN _ ?_
  try clear hN N
  refine AW.seq (fun N5 hN5=> ?_)
  refine AW.cond rfl (fun h=>absurd h (by first|(simp;done)|(simp only[decide_eq_true_eq];omega))) (fun _=> ?_)
  refine AW.exit ?_
  simp only[thn,blk,if_true]
  refine hN4 _ ?_
  try clear hN4 N4
  refine AW.seq (fun N6 hN6=> ?_)
  refine AW.sr envOk (fun N hN=> ?_)
  simp-dsimp-implicitDefEqProofs (disch:=(first|omega|((repeat refine LC.upd (by omega) ?_);assumption))) only[go_sem,undef,prsP,ints,rows,cubes,w64,one_sx]
  refine hN _ ?_
  try clear hN N
  refine AW.block ?_
  refine AW.loop1 ?_
  refine AW.sr envOk (fun N hN=> ?_)
  simp-dsimp-implicitDefEqProofs (disch:=(first|omega|((repeat refine LC.upd (by omega) ?_);assumption))) only[go_sem,undef,prsP,ints,rows,cubes,w64,one_sx]
  refine hN _ ?_
  try clear hN N
  refine AW.seq (fun N7 hN7=> ?_)
  refine AW.cond rfl (fun h=>absurd h (by first|(simp;done)|(simp only[decide_eq_true_eq];omega))) (fun _=> ?_)
  refine AW.exit ?_
  simp only[thn,blk,if_true]
  refine hN6 _ ?_
  try clear hN6 N6
  refine AW.sr envOk (fun N hN=> ?_)
  simp-dsimp-implicitDefEqProofs (disch:=(first|omega|((repeat refine LC.upd (by omega) ?_);assumption))) only[go_sem,undef,prsP,ints,rows,cubes,w64,one_sx]
  refine AC.pure (.lent (hj2) (.cons (Vw.strc (upd_same _ _ _) rfl) (.cons (.refl _) .nil)) (.s _)) ?_
  try simp-dsimp-implicitDefEqProofs (disch:=(first|omega|((repeat refine LC.upd (by omega) ?_);assumption))) only[go_sem,undef,prsP,ints,rows,cubes,w64,one_sx]
  refine hN _ ?_
  try clear hN N
  refine AW.ret ?_
  simp-dsimp-implicitDefEqProofs (disch:=(first|omega|((repeat refine LC.upd (by omega) ?_);assumption))) only[go_sem,undef]
  try rfl
 ·try simp only[cn]at h1
  simp at h1
end Go.Proofs.YthncdadmkppclaaGreatDoor
