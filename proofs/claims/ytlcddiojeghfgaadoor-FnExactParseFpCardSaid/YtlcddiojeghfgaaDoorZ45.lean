import Derived.Test.YtlcddiojeghfgaaDoorZ42
import Derived.Test.YtlcddiojeghfgaaDoorZ44
set_option linter.unusedVariables false
set_option linter.unusedSimpArgs false
namespace Go.Proofs.YtlcddiojeghfgaaDoor
open Nat (reduceAdd reduceSub reduceGT reduceEqDiff reduceMul)
noncomputable def wdsP (n:Int) (ps:List (List UInt8)):List (List Int):=ps.map fun p=>parW n (ofL p)
def fgQ (n:Int) (ps:List (List UInt8)):Prop:=(∀k,k<ps.length→parB n (ofL (ps.getD k []))=true)∧fpP n (wdsP n ps)
def fgV (b:Bool) (n:Int) (ws:List (List Int)):(Int×List (List Int))×Int:=match b with
  |true=>((n,ws),0)
  |false=>((0,[]),6)
noncomputable def fgH (h:List UInt8) (ps:List (List UInt8)):(Int×List (List Int))×Int:=fgV (tf (fgQ (valS (ofL h)) ps)) (valS (ofL h)) (wdsP (valS (ofL h)) ps)
noncomputable def fgM (l:List UInt8):(Int×List (List Int))×Int:=match spL 32 l with
  |[]=>((0,[]),6)
  |h::ps=>fgH h ps
theorem fgV_no {b:Bool} {n:Int} {ws:List (List Int)} (h:b=false):fgV b n ws=((0,[]),6):=by subst h;rfl
theorem fgH_no {h:List UInt8} {ps:List (List UInt8)} (hn:¬fgQ (valS (ofL h)) ps):fgH h ps=((0,[]),6):=fgV_no (tf_f hn)
theorem fgH_yes {h:List UInt8} {ps:List (List UInt8)} (hn:fgQ (valS (ofL h)) ps):fgH h ps=((valS (ofL h),wdsP (valS (ofL h)) ps),0):=by
  unfold fgH;rw[tf_t hn];rfl
def wdsI (n:Nat) (ps:List (List UInt8)):List (List Int):=ps.map (rdL n)
def fgI (n:Nat) (ps:List (List UInt8)) (l:List UInt8):Prop:=((n≤4∧∀k,k<ps.length→rdB n (ps.getD k [])=true)∧fpP n (wdsI n ps))∧(jn (dg n) (wdsI n ps)).toList=(ofL l).toList
noncomputable def irV (v:Int) (ps:List (List UInt8)) (l:List UInt8):(Int×List (List Int))×Int:=fgV (tf (0≤v∧fgI v.toNat ps l)) v (wdsI v.toNat ps)
theorem irV_no {v:Int} {ps:List (List UInt8)} {l:List UInt8} (h:¬(0≤v∧fgI v.toNat ps l)):irV v ps l=((0,[]),6):=fgV_no (tf_f h)
theorem irV_yes {n:Nat} {ps:List (List UInt8)} {l:List UInt8} (h:fgI n ps l):irV (n:Int) ps l=(((n:Int),wdsI n ps),0):=by
  unfold irV
  rw[tf_t ⟨by omega,by simpa using h⟩,Int.toNat_natCast];rfl
theorem spL_tail (c:UInt8):∀l,∀h ps,spL c l=h::ps→l=h++Lib.joinTail [c] ps:=by
  intro l
  induction l with
  |nil=>intro h ps e;simp[spL]at e;obtain⟨rfl,rfl⟩:=e;rfl
  | cons b l ih=>
    intro h ps e
    rw[spL]at e
    cases hs:spL c l with
    |nil=>exact absurd hs (spL_ne _ _)
    | cons x xs=>
      have hl:=ih x xs hs
      rw[hs]at e
      split at e
      · rename_i hb;subst hb
        cases e
        rw[hl];simp[Lib.joinTail]
      · cases e
        rw[hl];simp[List.cons_append]
theorem spL_head {c:UInt8} {h:List UInt8} {qs:List (List UInt8)} (hc:h.count c=0):(spL c (h++Lib.joinTail [c] qs)).head? =some h:=by
  cases qs with
  |nil=>simp[Lib.joinTail,spL_zero hc]
  | cons q qs=>
    rw[show h++Lib.joinTail [c] (q::qs)=h++c::(q++Lib.joinTail [c] qs) by simp[Lib.joinTail],spL_app _ hc]
    rfl
theorem dgL (n:Nat) (h:n≤4):(dg n).data.toList=[UInt8.ofNat (48+n)]:=by
  have e:n=0∨n=1∨n=2∨n=3∨n=4:=by omega
  rcases e with rfl|rfl|rfl|rfl|rfl<;>(unfold dg Lib.decDigits;rfl)
theorem dg_cnt (n:Nat) (h:n≤4):([UInt8.ofNat (48+n)]:List UInt8).count 32=0:=by
  have e:n=0∨n=1∨n=2∨n=3∨n=4:=by omega
  rcases e with rfl|rfl|rfl|rfl|rfl<;>rfl
theorem dg_parse (n:Nat) (h:n≤4):Lib.parseIntB 64 [UInt8.ofNat (48+n)]= .ok (n:Int):=by
  have e:n=0∨n=1∨n=2∨n=3∨n=4:=by omega
  rcases e with rfl|rfl|rfl|rfl|rfl<;>rfl
theorem dg_val (n:Nat) (h:n≤4):valS (ofL [UInt8.ofNat (48+n)])=n:=by
  have hs:(ofL [UInt8.ofNat (48+n)]).size=1:=by rw[ofL_sz];rfl
  have hb:byt (ofL [UInt8.ofNat (48+n)]) 0=48+n:=by
    rw[byt_L]
    have e:n=0∨n=1∨n=2∨n=3∨n=4:=by omega
    rcases e with rfl|rfl|rfl|rfl|rfl<;>rfl
  rw[val_yes (by rw[hs];omega) (fun j hj=>by
    have:j=0:=by omega
    subst this;unfold isDig;omega),hs,vpre,vpre,hb]
  omega
theorem vpre_big {s:ByteArray} {m:Nat} (hd:∀j,j<m→isDig s j) (h0:byt s 0≠48):∀i,i+2≤m→10≤vpre s (i+2):=by
  intro i
  induction i with
  | zero=>
    intro h
    have h1:=hd 0 (by omega);have h2:=hd 1 (by omega)
    unfold isDig at h1 h2
    rw[vpre,vpre,vpre];omega
  | succ i ih=>
    intro h
    have h1:=ih (by omega)
    have h2:=hd (i+2) (by omega)
    unfold isDig at h2
    rw[vpre];omega
theorem val_dg {h:List UInt8} (h0:0≤valS (ofL h)) (h4:valS (ofL h)≤4):∃n:Nat,n≤4∧h=[UInt8.ofNat (48+n)]:=by
  unfold valS at h0 h4
  split at h0
  · omega
  rename_i hc
  rw[if_neg hc]at h4
  split at h0
  · rename_i hd
    rw[if_pos hd]at h4
    rw[ofL_sz]at hc h0 h4
    have hd':∀j,j<h.length→isDig (ofL h) j:=fun j hj=>hd j (by rw[ofL_sz];exact hj)
    match h,hc,h0,h4,hd' with
    |[],hc,_,_,_=>simp at hc
    | [b],_,h0,h4,hd'=>
      have h1:=hd' 0 (by simp)
      unfold isDig at h1
      have hb:byt (ofL [b]) 0=(b.toNat:Int):=by rw[byt_L];rfl
      simp only[List.length_cons,List.length_nil,vpre,Nat.zero_add]at h0 h4
      rw[hb]at h0 h4 h1
      refine⟨b.toNat-48,by omega,?_⟩
      rw[show 48+(b.toNat-48)=b.toNat by omega]
      simp
    | b::c::r,hc,h0,h4,hd'=>
      have:=vpre_big (m:=(b::c::r).length) hd' (fun e=>hc (.inr (.inr ⟨by simp,e⟩))) r.length (by simp)
      simp only[List.length_cons]at h4
      have h5:10≤vpre (ofL (b::c::r)) (r.length+1+1):=this
      omega
  · omega
theorem rd_wtx {n:Nat} (hn:n≤4) {p:List UInt8} (h:rdB n p=true):(wtx (rdL n p)).data.toList=p:=by
  by_cases e:p=[49]
  · rw[rdL,if_pos e,wtx,if_pos rfl,e]
  · rw[rdB,if_neg e,Bool.and_eq_true,decide_eq_true_eq]at h
    rw[rdL,if_neg e,if_pos h.1,wtx,if_neg (by simpa using h.2)]
    have hl:∀b∈p,ltr (lvB b)=(b.toNat:Int):=by
      intro b hb
      have h1:=List.all_eq_true.1 h.1 b hb
      unfold okB lvB at h1
      simp only[Bool.and_eq_true,decide_eq_true_eq]at h1
      have hb8:=b.toNat_lt
      unfold ltr lvB
      by_cases h2:b.toNat<97
      · rw[if_pos h2]at h1 ⊢
        rw[if_neg (by omega),w64 (n:=65-(64-(b.toNat:Int))) (by omega) (by omega),w64 (n:=65-(64-(b.toNat:Int))-1) (by omega) (by omega),w8 (by omega) (by omega)];omega
      · rw[if_neg h2]at h1 ⊢
        rw[if_pos (by omega),w64 (n:=97+((b.toNat:Int)-96)) (by omega) (by omega),w64 (n:=97+((b.toNat:Int)-96)-1) (by omega) (by omega),w8 (by omega) (by omega)];omega
    have h3:(p.map lvB).map ltr=p.map fun b=>(b.toNat:Int):=by
      rw[List.map_map];exact List.map_congr_left hl
    rw[h3]
    simp[strOfNums,Function.comp_def]
theorem fgI_text {n:Nat} (hn:n≤4) {ps:List (List UInt8)} (h:∀k,k<ps.length→rdB n (ps.getD k [])=true):(jn (dg n) (wdsI n ps)).toList=(ofL ([UInt8.ofNat (48+n)]++Lib.joinTail [32] ps)).toList:=by
  rw[ByteArray.toList_eq,ByteArray.toList_eq,jn_join,dgL n hn]
  show _=[UInt8.ofNat (48+n)]++Lib.joinTail [32] ps
  congr 2
  unfold wdsI
  rw[List.map_map]
  refine List.ext_getElem (by simp) fun k h1 h2=> ?_
  have:=rd_wtx hn (h k h2)
  simpa[h2]using this
theorem wds_eq {n:Nat} (hn:n≤4) (ps:List (List UInt8)):wdsP n ps=wdsI n ps:=List.map_congr_left fun p _=>(par_rd hn p).1
theorem irV_eq {l:List UInt8} {h:List UInt8} {ps:List (List UInt8)} {v:Int} (hs:spL 32 l=h::ps) (hv:Lib.parseIntB 64 h= .ok v):irV v ps l=fgH h ps:=by
  have hl:=spL_tail 32 l h ps hs
  by_cases hq:fgQ (valS (ofL h)) ps
  · obtain⟨n,hn,rfl⟩:=val_dg hq.2.1.1 hq.2.1.2
    rw[dg_val n hn]at hq
    rw[dg_parse n hn]at hv
    cases hv
    have hr:∀k,k<ps.length→rdB n (ps.getD k [])=true:=fun k hk=>by rw[←(par_rd hn _).2];exact hq.1 k hk
    rw[irV_yes (n:=n) (l:=l) ⟨⟨⟨hn,hr⟩,by rw[←wds_eq hn];exact hq.2⟩,(fgI_text hn hr).trans (congrArg (fun q=>(ofL q).toList) hl.symm)⟩,fgH_yes (by rw[dg_val n hn];exact hq),dg_val n hn,wds_eq hn]
  · rw[fgH_no hq]
    refine irV_no ?_
    rintro⟨h0,⟨⟨h4,hr⟩,hf⟩,ht⟩
    obtain⟨n,rfl⟩:∃n:Nat,v=n:=⟨v.toNat,by omega⟩
    rw[Int.toNat_natCast]at h4 hr hf ht
    have ht2:=(fgI_text h4 hr).symm.trans ht
    rw[toL_eq]at ht2
    have hh:=spL_head (c:=32) (qs:=ps) (dg_cnt n h4)
    rw[ht2,hs]at hh
    cases hh
    refine hq ⟨fun k hk=> ?_,?_⟩
    · rw[dg_val n h4,(par_rd h4 _).2];exact hr k hk
    · rw[dg_val n h4,wds_eq h4];exact hf
theorem fgH_bad {h:List UInt8} {ps:List (List UInt8)} (hv:∀v,Lib.parseIntB 64 h≠ .ok v):fgH h ps=((0,[]),6):=by
  refine fgH_no fun hq=> ?_
  obtain⟨n,hn,rfl⟩:=val_dg hq.2.1.1 hq.2.1.2
  exact hv n (dg_parse n hn)
theorem tail_len (c:UInt8):∀ps:List (List UInt8),ps.length≤(Lib.joinTail [c] ps).length∧∀p∈ps,p.length≤(Lib.joinTail [c] ps).length:=by
  intro ps
  induction ps with
  |nil=>exact⟨Nat.le_refl _,by simp⟩
  | cons q ps ih=>
    have e:(Lib.joinTail [c] (q::ps)).length=q.length+1+(Lib.joinTail [c] ps).length:=by simp[Lib.joinTail];omega
    refine⟨by rw[e,List.length_cons];omega,fun p hp=> ?_⟩
    rw[e]
    rcases List.mem_cons.1 hp with rfl|hp
    · omega
    · have:=ih.2 p hp;omega
theorem spL_sml {c:UInt8} {l h:List UInt8} {ps:List (List UInt8)} {N:Nat} (hs:spL c l=h::ps) (hl:l.length≤N):h.length≤N∧ps.length≤N∧∀k,(ps.getD k []).length≤N:=by
  have:=congrArg List.length (spL_tail c l h ps hs)
  rw[List.length_append]at this
  obtain⟨h1,h2⟩:=tail_len c ps
  refine⟨by omega,by omega,fun k=> ?_⟩
  by_cases hk:k<ps.length
  · have:=h2 (ps.getD k []) (by simp[hk]);omega
  · simp[List.getD,List.getElem?_eq_none (show ps.length≤k by omega)]
theorem parW_len (n:Int) (s:ByteArray):(parW n s).length≤s.size:=by
  unfold parW
  split
  · simp
  · split
    · simp[ltrs]
    · simp
theorem wdsP_rl {n:Int} {ps:List (List UInt8)} (h1:ps.length≤1048576) (h2:∀k,(ps.getD k []).length≤1048576):rowslen (wdsP n ps):=by
  refine⟨by unfold wdsP;rw[List.length_map];exact h1,fun x hx=> ?_⟩
  unfold wdsP at hx
  obtain⟨p,hp,rfl⟩:=List.mem_map.1 hx
  obtain⟨k,hk,rfl⟩:=List.mem_iff_getElem.1 hp
  have:=parW_len n (ofL ps[k]);rw[ofL_sz]at this
  have h3:=h2 k
  simp[hk]at h3
  omega
theorem LC.vw {H:HP} {a b:Nat} {L:AV} {cs:List AV} (h:LC H a b L cs):Vw H L (.v cs.length cs):=by
  rcases h with ⟨rfl,rfl⟩|⟨id,rfl,h0,_,_⟩
  · exact .nl
  · exact Vw.fr h0 rfl
theorem wdsP_take {n:Int} {ps:List (List UInt8)} {k:Nat} (h:k<ps.length):((wdsP n ps).take (k+1)).map ints=((wdsP n ps).take k).map ints++[ints (parW n (ofL (ps.getD k [])))]:=by
  rw[List.take_succ_eq_append_getElem (by unfold wdsP;rw[List.length_map];exact h),List.map_append]
  simp[wdsP,h]
set_option maxHeartbeats 4000000 in
theorem spec_ParseFp_ok (l:List UInt8) (hl:l.length≤1048576):ACp Tryd.prog 4 [.s (ofL l)] (resF (fgM l)):=by
 have hsp2:ACp Tryd.prog 9 [.s (ofL l),.i .u8 32] (strs ((spL 32 l).map ofL)):=by
  have:=spec_l01Split_ok (ofL l) 32 (by rw[ofL_sz];omega)
  rwa [spw_L]at this
 obtain⟨hd,ps,hs⟩:∃hd ps,spL 32 l=hd::ps:=by
  cases e:spL 32 l with
  |nil=>exact absurd e (spL_ne _ _)
  |cons x xs=>exact⟨x,xs,rfl⟩
 obtain⟨z1,z2,z3⟩:=spL_sml hs hl
 rw[show fgM l=fgH hd ps by unfold fgM;rw[hs]]
 rw[hs]at hsp2
 obtain⟨n,hn⟩:∃n,valS (ofL hd)=n:=⟨_,rfl⟩
 refine ACp.introV envOk Tryd.func4 rfl (by kernel_rfl) Tryd.ntmps4 Tryd.results4 ((resF_nr _)) (fun nx cX=> ?_)
 refine AW.sr envOk (fun N hN=> ?_)
 simp-dsimp-implicitDefEqProofs (disch:=(first|omega|((repeat refine LC.upd (by omega) ?_);assumption))) only[go_sem,undef,w64,strs,ofL_sz]
 refine hN _ ?_
 try clear hN N
 refine AW.sr envOk (fun N hN=> ?_)
 simp-dsimp-implicitDefEqProofs (disch:=(first|omega|((repeat refine LC.upd (by omega) ?_);assumption))) only[go_sem,undef,w64,strs,ofL_sz]
 refine AC.pure (.of (hsp2)) ?_
 try simp-dsimp-implicitDefEqProofs (disch:=(first|omega|((repeat refine LC.upd (by omega) ?_);assumption))) only[go_sem,undef,w64,strs,ofL_sz]
 refine hN _ ?_
 try clear hN N
 refine AW.sr envOk (fun N hN=> ?_)
 simp-dsimp-implicitDefEqProofs (disch:=(first|omega|((repeat refine LC.upd (by omega) ?_);assumption))) only[go_sem,undef,w64,strs,ofL_sz]
 refine AC.pure (.of (spec_l01Value_ok (ofL hd))) ?_
 try simp-dsimp-implicitDefEqProofs (disch:=(first|omega|((repeat refine LC.upd (by omega) ?_);assumption))) only[go_sem,undef,w64,strs,ofL_sz]
 refine hN _ ?_
 try clear hN N
 refine AW.seq (fun N1 hN1=> ?_)
 rw[hn]
 refine AW.nameH (fun G0 hG0=> ?_)
 dsimp only at hG0
 have h00:G0 nx=some [.i .i64 0,.nl]:=by rw[←hG0];simp(disch:=omega) only[upd_ne,upd_same]
 have h0b:G0 (nx+2+3+5)=some [.i .i64 n,.nl]:=by rw[←hG0];simp(disch:=omega) only[upd_ne,upd_same]
 refine AW.sr envOk (fun N hN=> ?_)
 simp-dsimp-implicitDefEqProofs (disch:=(first|omega|((repeat refine LC.upd (by omega) ?_);assumption))) only[go_sem,undef,w64,strs,ofL_sz]
 refine hN _ ?_
 try clear hN N
 refine AW.block ?_
 refine AW.loopN (α:=Nat×HP×AV) (fun x=>sl 46 [(2,.q nx 0),(3,.i .i64 0),(4,strs ((hd::ps).map ofL)),(5,.q (nx+2+3+5) 0),(6,.i .i64 (x.1+1))]) (fun x=>x.2.1) (fun x m=>(x.1≤ps.length∧nx+12≤m)∧(x.2.1 nx=some [.i .i64 0,.nl]∧x.2.1 (nx+2+3+5)=some [.i .i64 n,x.2.2])∧LC x.2.1 (nx+12) m x.2.2 (((wdsP n ps).take x.1).map ints)∧∀j,j<x.1→parB n (ofL (ps.getD j []))=true) (fun x=>ps.length-x.1) ((0,G0,.nl)) ?_ ?_ (fun _ _ h=>h) ?_
 ·exact⟨⟨by simp,by first|omega|(simp only;omega)|(dsimp only;omega)⟩,⟨h00,h0b⟩,.nil,fun k hk=>by omega⟩
 ·simp(disch:=omega) [wks,wkA,sl,strs]
 ·skip
  rintro⟨k,G,L⟩ m ⟨⟨hk,hm⟩,⟨hG0,hGb⟩,hL,hgo⟩
  simp-dsimp-implicitDefEqProofs (disch:=(first|omega|((repeat refine LC.upd (by omega) ?_);assumption))) only[go_sem,undef]
  dsimp only at hk hm hG0 hGb hL hgo ⊢
  have hLo:=hL.one
  have hLl:=hL.len
  have hLc:=hL.cells
  refine AW.seq (fun N2 hN2=> ?_)
  refine AW.sr envOk (fun N hN=> ?_)
  simp-dsimp-implicitDefEqProofs (disch:=(first|omega|((repeat refine LC.upd (by omega) ?_);assumption))) only[go_sem,undef,w64,strs,ofL_sz]
  refine hN _ ?_
  try clear hN N
  refine AW.cond rfl (fun h1=> ?_) (fun h1=> ?_)
  ·try simp only[cn]at h1
   have hkn:k<ps.length:=by omega
   have hg:=strs_ofL ps (k:=k) hkn
   have z4:=z3 k
   have hcl:(((wdsP n ps).take k).map ints).length=k:=by rw[List.length_map,List.length_take];unfold wdsP;rw[List.length_map];omega
   refine AW.skip ?_
   simp only[thn,blk]
   refine hN2 _ ?_
   try clear hN2 N2
   refine AW.seq (fun N3 hN3=> ?_)
   refine AW.block ?_
   refine AW.seq (fun N hN=> ?_)
   refine AW.drawL envOk (by kernel_rfl) 12 (by kernel_rfl) ?_
   simp-dsimp-implicitDefEqProofs (disch:=(first|omega|((repeat refine LC.upd (by omega) ?_);assumption))) only[hr_nil,hr_one,hr_if,List.take_succ_cons,List.take_zero,List.drop_succ_cons,List.drop_zero,List.take_nil,List.drop_nil,go_sem,undef,w64,strs,ofL_sz,hGb,hg,hLo,List.getD_cons_succ]
   refine⟨_,.of (spec_l06Parse_ok n (ofL (ps.getD k [])) (by rw[ofL_sz];omega)),?_⟩
   try simp-dsimp-implicitDefEqProofs (disch:=(first|omega|((repeat refine LC.upd (by omega) ?_);assumption))) only[go_sem,undef,w64,strs,ofL_sz]
   refine hN _ ?_
   try clear hN N
   refine AW.seq (fun N4 hN4=> ?_)
   refine AW.sr envOk (fun N hN=> ?_)
   simp-dsimp-implicitDefEqProofs (disch:=(first|omega|((repeat refine LC.upd (by omega) ?_);assumption))) only[go_sem,undef,w64,strs,ofL_sz]
   refine hN _ ?_
   try clear hN N
   refine AW.cond rfl (fun h2=> ?_) (fun h2=> ?_)
   ·try simp only[cn]at h2
    have hno:¬fgQ (valS (ofL hd)) ps:=fun hq=>by
     have:=hq.1 k hkn
     rw[hn,h2]at this;cases this
    refine AW.sr envOk (fun N hN=> ?_)
    simp-dsimp-implicitDefEqProofs (disch:=(first|omega|((repeat refine LC.upd (by omega) ?_);assumption))) only[go_sem,undef,w64,strs,ofL_sz,hG0,hGb]
    refine hN _ ?_
    try clear hN N
    refine AW.ret ?_
    simp-dsimp-implicitDefEqProofs (disch:=(first|omega|((repeat refine LC.upd (by omega) ?_);assumption))) only[go_sem,undef]
    rw[fgH_no hno]
    exact Vw.t2 (Vw.fp .nl)
   ·try simp only[cn]at h2
    have hgo2:∀j,j<k+1→parB n (ofL (ps.getD j []))=true:=fun j hj=>by
     by_cases e:j=k
     ·rw[e];exact h2
     ·exact hgo j (by omega)
    refine AW.skip ?_
    simp only[thn,blk]
    refine hN4 _ ?_
    try clear hN4 N4
    have hdb:dl (upd G (m+4+12+2+3) (some [ints (parW n (ofL (ps.getD k [])))])) L (nx+2+3+5)=some [.i .i64 n,L]:=(dl_ne (fun e=>by have:=hL.bd;omega)).trans ((upd_ne _ _ (by omega)).trans hGb)
    refine AW.regionL envOk ?_
    simp-dsimp-implicitDefEqProofs (disch:=(first|omega|((repeat refine LC.upd (by omega) ?_);assumption))) only[go_sem,undef,w64,strs,ofL_sz,hGb,hLo,hdb,hLl,hcl,apst_LC (a:=nx+12) (b:=m) (L:=L) (cs:=((wdsP n ps).take k).map ints)]
    refine hN3 _ ?_
    try clear hN3 N3
    refine AW.nameH (fun G3 hG3=> ?_)
    dsimp only at hG3
    refine AW.regionL envOk ?_
    simp-dsimp-implicitDefEqProofs (disch:=(first|omega|((repeat refine LC.upd (by omega) ?_);assumption))) only[go_sem,undef,w64,strs,ofL_sz]
    refine⟨(k+1,G3,.h (m+4+12+2+4) 0 (k+1)),?_,fun _ _ h=>h,?_,?_⟩
    ·simp(disch:=omega) [wks,wkA,sl,strs,w64]
    ·have hmk:LC G3 (nx+12) (m+4+12+2+7+3) (.h (m+4+12+2+4) 0 (k+1)) (((wdsP n ps).take (k+1)).map ints):=LC.mk (by rw[←hG3,wdsP_take hkn];simp(disch:=omega) only[upd_ne,upd_same]) (by rw[wdsP_take hkn,List.length_append,hcl];rfl) (by omega) (by omega)
     have hG30:G3 nx=some [.i .i64 0,.nl]:=by
      rw[←hG3]
      exact(upd_ne _ _ (by omega)).trans ((upd_ne _ _ (by omega)).trans ((dl_ne (fun e=>by have:=hL.bd;omega)).trans ((upd_ne _ _ (by omega)).trans hG0)))
     have hG3b:G3 (nx+2+3+5)=some [.i .i64 n,.h (m+4+12+2+4) 0 (k+1)]:=by rw[←hG3];exact upd_same _ _ _
     first|exact⟨⟨by first|omega|(simp only;omega)|(dsimp only;omega),by first|omega|(simp only;omega)|(dsimp only;omega)⟩,⟨hG30,hG3b⟩,hmk,hgo2⟩|exact⟨by first|omega|(simp only;omega)|(dsimp only;omega),⟨hG30,hG3b⟩,hmk,hgo2⟩
    ·first|omega|(simp only;omega)
  ·try simp only[cn]at h1
   have hke:k=ps.length:=by omega
   rw[hke,List.take_of_length_le (by unfold wdsP;simp)]at hL
   rw[hke]at hgo
   have hvr:Vw G L (rows (wdsP n ps)):=by rw[rows_v];exact hL.vw
   have hLo:=hL.one
   have hLc:=hL.cells
   refine AW.exit ?_
   simp only[thn,blk,if_true]
   refine hN1 _ ?_
   try clear hN1 N1
   refine AW.seq (fun N5 hN5=> ?_)
   refine AW.sr envOk (fun N hN=> ?_)
   simp-dsimp-implicitDefEqProofs (disch:=(first|omega|((repeat refine LC.upd (by omega) ?_);assumption))) only[go_sem,undef,w64,strs,ofL_sz,hGb,hLo]
   refine AC.pure (.lent (spec_IsFpGroup_ok n (wdsP n ps) (wdsP_rl z2 z3)) (.cons (Vw.fp hvr) .nil) (.b _)) ?_
   try simp-dsimp-implicitDefEqProofs (disch:=(first|omega|((repeat refine LC.upd (by omega) ?_);assumption))) only[go_sem,undef,w64,strs,ofL_sz]
   refine hN _ ?_
   try clear hN N
   refine AW.cond rfl (fun h3=> ?_) (fun h3=> ?_)
   ·try simp only[cn]at h3
    have hno:¬fgQ (valS (ofL hd)) ps:=fun hq=>by
     have:=hq.2
     rw[hn]at this
     exact h3 this
    refine AW.sr envOk (fun N hN=> ?_)
    simp-dsimp-implicitDefEqProofs (disch:=(first|omega|((repeat refine LC.upd (by omega) ?_);assumption))) only[go_sem,undef,w64,strs,ofL_sz,hG0]
    refine hN _ ?_
    try clear hN N
    refine AW.ret ?_
    simp-dsimp-implicitDefEqProofs (disch:=(first|omega|((repeat refine LC.upd (by omega) ?_);assumption))) only[go_sem,undef]
    rw[fgH_no hno]
    exact Vw.t2 (Vw.fp .nl)
   ·try simp only[cn]at h3
    have hq:fgQ (valS (ofL hd)) ps:=by
     rw[hn]
     exact⟨hgo,h3⟩
    refine AW.skip ?_
    simp only[thn,blk]
    refine hN5 _ ?_
    try clear hN5 N5
    refine AW.sr envOk (fun N hN=> ?_)
    simp-dsimp-implicitDefEqProofs (disch:=(first|omega|((repeat refine LC.upd (by omega) ?_);assumption))) only[go_sem,undef,w64,strs,ofL_sz,hGb,hG0,hLo]
    refine hN _ ?_
    try clear hN N
    refine AW.ret ?_
    simp-dsimp-implicitDefEqProofs (disch:=(first|omega|((repeat refine LC.upd (by omega) ?_);assumption))) only[go_sem,undef]
    rw[fgH_yes hq,hn]
    exact Vw.t2 (Vw.fp (by rw[rows_v];exact(LC.upd (by omega) hL).vw))
end Go.Proofs.YtlcddiojeghfgaaDoor
