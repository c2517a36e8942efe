import Derived.Test.YthncdadmkppclaaGreatDoorZ29
import Derived.Test.YthncdadmkppclaaGreatDoorZ42
import Derived.Test.YthncdadmkppclaaGreatDoorZ43
set_option linter.unusedVariables false
set_option linter.unusedSimpArgs false
namespace Go.Proofs.YthncdadmkppclaaGreatDoor
open Nat (reduceAdd reduceSub reduceGT reduceEqDiff reduceMul)
theorem XC.ops {P:Program} {cX:Ctx} {o:Oper} {lo hi:Nat} {s:St} {K':St→Prop} (hlo:lo<hi) (h:OpS P o (evo s.t) s.H lo fun r H'=>K' ⟨putA s.t o.dst r,H',s.nx⟩):XC cX P o lo hi s K':=by
  intro L a w K Q c hK
  exact qv_of_ops h c hlo (fun r H' L' u w' hk hc=>hK _ _ _ _ hk hc)
theorem cvrs_ok {P:Program} {Γ:TEnv} (hG:GOk P Γ) {o:Oper} {ev:Operand→AV} {H:HP} {id:Nat} {src dst:TypeId} {x:Operand} (ho:o.op= .convert src dst x) {kd:IntKind} {n:Int} (hx:ev x= .i kd n) {e ed:TE} (he:Γ src=some e) (hed:Γ dst=some ed) (hd:ed.d= .str) {k:AV→HP→Prop} (h:k (.s (Utf8.encode n)) H):OpS P o ev H id k:=by
  intro L Av w ρ hs hfn hL hi hops
  have hu:=hops x (by rw[ho];simp[Op.operands])
  rw[hx]at hu
  obtain⟨d1,g1,g1b,g1c⟩:=(hG src e he).run_und
  obtain⟨d2,g2,g2b,g2c⟩:=(hG dst ed hed).run_und
  have e1:=td_str (g2.trans hd)
  subst e1
  refine .of_value (u:= .string (Utf8.encode n)) (w':=w) ?_ ⟨_,H,L,h,fun _ _=>rfl,hs,Step.refl _ _ _,.s _⟩
  simp[execOp,ho,hu.i_inv,run_convert_int_string w src dst kd n (by rw[g1b];rfl) g2b]
theorem enc_let (i:Nat) (h:i<6):Utf8.encode (97+(i:Int))=ofL (letC i):=by
  have h0:Utf8.encode (97+((0:Nat):Int))=ofL (letC 0):=by kernel_rfl
  have h1:Utf8.encode (97+((1:Nat):Int))=ofL (letC 1):=by kernel_rfl
  have h2:Utf8.encode (97+((2:Nat):Int))=ofL (letC 2):=by kernel_rfl
  have h3:Utf8.encode (97+((3:Nat):Int))=ofL (letC 3):=by kernel_rfl
  have h4:Utf8.encode (97+((4:Nat):Int))=ofL (letC 4):=by kernel_rfl
  have h5:Utf8.encode (97+((5:Nat):Int))=ofL (letC 5):=by kernel_rfl
  have hi:i=0∨i=1∨i=2∨i=3∨i=4∨i=5:=by omega
  rcases hi with rfl|rfl|rfl|rfl|rfl|rfl<;>assumption
theorem w32 {n:Int} (h0: -2147483648≤n) (h1:n≤2147483647):IntKind.wrap .i32 n=n:=by
  simp only[IntKind.wrap,IntKind.bits,IntKind.signed]
  simp
  omega
theorem impl_letterOf_ok (i:Nat) (h:i<6):ACp Tryz.prog 78 [.i .i64 i] (.s (ofL (letC i))):=by
 refine ACp.intro' envOk Tryz.func78 rfl (by kernel_rfl) Tryz.ntmps78 Tryz.results78 (.s _) (fun nx cX=> ?_)
 refine AW.sr envOk (fun N hN=> ?_)
 simp-dsimp-implicitDefEqProofs (disch:=(first|omega|((repeat refine LC.upd (by omega) ?_);assumption))) only[go_sem,undef,w64,w32]
 refine hN _ ?_
 try clear hN N
 refine AW.seq (fun N hN=> ?_)
 refine AW.regionX envOk 3 _ rfl rfl ?_
 simp-dsimp-implicitDefEqProofs (disch:=(first|omega|((repeat refine LC.upd (by omega) ?_);assumption))) only[List.take_succ_cons,List.take_zero,List.drop_succ_cons,List.drop_zero,List.take_nil,List.drop_nil,go_sem,undef,w64,w32]
 refine XC.ops (by omega) (cvrs_ok envOk rfl rfl rfl rfl rfl ?_)
 rw[enc_let i h]
 try simp-dsimp-implicitDefEqProofs (disch:=(first|omega|((repeat refine LC.upd (by omega) ?_);assumption))) only[go_sem,undef,w64]
 refine hN _ ?_
 try clear hN N
 refine AW.ret ?_
 simp-dsimp-implicitDefEqProofs (disch:=(first|omega|((repeat refine LC.upd (by omega) ?_);assumption))) only[go_sem,undef]
 skip
def cutC (c:UInt8) (l:List UInt8):List UInt8×List UInt8×Bool:=if 0≤Lib.indexByte l c then (l.take (Lib.indexByte l c).toNat,l.drop ((Lib.indexByte l c).toNat+1),true)else (l,[],false)
theorem stringslite_Index_b (s:ByteArray) (c:UInt8):ACp Tryz.prog 92 [.s s,.s ⟨#[c]⟩] (.i .i64 (Lib.indexByte s.data.toList c)):=by
  refine⟨⟨_,Tryz.func92,by kernel_rfl,by kernel_rfl⟩,fun L M w us hM hn ha=> ?_⟩
  obtain⟨u,v,rfl,h1,h2⟩:=args2 ha
  rw[h1.s_inv,h2.s_inv]
  exact(Tryz.stringslite_Index_one s c w).mono (by rintro e w' ⟨rfl,rfl⟩;exact⟨_,rfl,Step.refl _ _ _,.i _ _⟩)
theorem ib_lt (c:UInt8):∀l:List UInt8,Lib.indexByte l c<l.length:=by
  intro l
  induction l with
  |nil=>simp[Lib.indexByte]
  | cons b l ih=>
    unfold Lib.indexByte
    split
    · simp
    · split
      · simp;omega
      · rw[List.length_cons];omega
theorem t3s_nr (a b:ByteArray) (f:Bool):NR (.t [.s a,.s b,.b f]):= .t _ fun k y hk=>by
  match k,hk with
  |0,hk=>cases hk;exact .s _
  |1,hk=>cases hk;exact .s _
  |2,hk=>cases hk;exact .b _
theorem stringslite_Cut_ok (l:List UInt8) (c:UInt8) (hl:l.length≤2097152):ACp Tryz.prog 71 [.s (ofL l),.s ⟨#[c]⟩] (.t [.s (ofL (cutC c l).1),.s (ofL (cutC c l).2.1),.b (cutC c l).2.2]):=by
 have hi:=stringslite_Index_b (ofL l) c
 rw[ofL_l]at hi
 have hlt:=ib_lt c l
 have z1:(#[c]:Array UInt8).size=1:=rfl
 refine ACp.intro' envOk Tryz.func71 rfl (by kernel_rfl) Tryz.ntmps71 Tryz.results71 (t3s_nr _ _ _) (fun nx cX=> ?_)
 refine AW.sr envOk (fun N hN=> ?_)
 simp-dsimp-implicitDefEqProofs (disch:=(first|omega|((repeat refine LC.upd (by omega) ?_);assumption))) only[go_sem,undef,w64,ofL_sz]
 refine hN _ ?_
 try clear hN N
 refine AW.seq (fun N1 hN1=> ?_)
 refine AW.sr envOk (fun N hN=> ?_)
 simp-dsimp-implicitDefEqProofs (disch:=(first|omega|((repeat refine LC.upd (by omega) ?_);assumption))) only[go_sem,undef,w64,ofL_sz]
 refine AC.pure (.of (hi)) ?_
 try simp-dsimp-implicitDefEqProofs (disch:=(first|omega|((repeat refine LC.upd (by omega) ?_);assumption))) only[go_sem,undef,w64,ofL_sz]
 refine hN _ ?_
 try clear hN N
 refine AW.sr envOk (fun N hN=> ?_)
 simp-dsimp-implicitDefEqProofs (disch:=(first|omega|((repeat refine LC.upd (by omega) ?_);assumption))) only[go_sem,undef,w64,ofL_sz]
 refine hN _ ?_
 try clear hN N
 refine AW.cond rfl (fun h1=> ?_) (fun h1=> ?_)
 ·try simp only[cn]at h1
  refine AW.seq (fun N hN=> ?_)
  refine AW.drawL envOk (by kernel_rfl) 12 (by kernel_rfl) ?_
  simp-dsimp-implicitDefEqProofs (disch:=(first|omega|((repeat refine LC.upd (by omega) ?_);assumption))) only[hr_nil,hr_one,hr_if,List.take_succ_cons,List.take_zero,List.drop_succ_cons,List.drop_zero,List.take_nil,List.drop_nil,go_sem,undef,w64,ofL_sz]
  refine hN _ ?_
  try clear hN N
  refine AW.ret ?_
  simp-dsimp-implicitDefEqProofs (disch:=(first|omega|((repeat refine LC.upd (by omega) ?_);assumption))) only[go_sem,undef]
  rw[z1]
  have e1:(Lib.indexByte l c+((1:Nat):Int)).toNat=(Lib.indexByte l c).toNat+1:=by omega
  have e2:l.length-((Lib.indexByte l c).toNat+1)=(l.drop ((Lib.indexByte l c).toNat+1)).length:=by rw[List.length_drop]
  rw[cutC,if_pos h1]
  simp only[ofL_ext,List.drop_zero,Nat.sub_zero,e1,Int.toNat_natCast,e2,List.take_length]
 ·try simp only[cn]at h1
  refine AW.skip ?_
  simp only[thn,blk]
  refine hN1 _ ?_
  try clear hN1 N1
  refine AW.sr envOk (fun N hN=> ?_)
  simp-dsimp-implicitDefEqProofs (disch:=(first|omega|((repeat refine LC.upd (by omega) ?_);assumption))) only[go_sem,undef,w64,ofL_sz]
  refine hN _ ?_
  try clear hN N
  refine AW.ret ?_
  simp-dsimp-implicitDefEqProofs (disch:=(first|omega|((repeat refine LC.upd (by omega) ?_);assumption))) only[go_sem,undef]
  rw[cutC,if_neg (by omega)];rfl
theorem strings_Cut_ok (l:List UInt8) (c:UInt8) (hl:l.length≤2097152):ACp Tryz.prog 59 [.s (ofL l),.s ⟨#[c]⟩] (.t [.s (ofL (cutC c l).1),.s (ofL (cutC c l).2.1),.b (cutC c l).2.2]):=by
 refine ACp.intro' envOk Tryz.func59 rfl (by kernel_rfl) Tryz.ntmps59 Tryz.results59 (t3s_nr _ _ _) (fun nx cX=> ?_)
 refine AW.sr envOk (fun N hN=> ?_)
 simp-dsimp-implicitDefEqProofs (disch:=(first|omega|((repeat refine LC.upd (by omega) ?_);assumption))) only[go_sem,undef,]
 refine hN _ ?_
 try clear hN N
 refine AW.sr envOk (fun N hN=> ?_)
 simp-dsimp-implicitDefEqProofs (disch:=(first|omega|((repeat refine LC.upd (by omega) ?_);assumption))) only[go_sem,undef,]
 refine AC.pure (.of (stringslite_Cut_ok l c hl)) ?_
 try simp-dsimp-implicitDefEqProofs (disch:=(first|omega|((repeat refine LC.upd (by omega) ?_);assumption))) only[go_sem,undef,]
 refine hN _ ?_
 try clear hN N
 refine AW.ret ?_
 simp-dsimp-implicitDefEqProofs (disch:=(first|omega|((repeat refine LC.upd (by omega) ?_);assumption))) only[go_sem,undef]
 skip
def genC (n:Nat):List UInt8→Option Nat
  |[b]=>if 97≤b.toNat∧b.toNat<97+n then some (b.toNat-97)else none
  |_=>none
def genR (n:Nat) (l:List UInt8):AV:=match genC n l with
  |some i=> .t [.i .i64 i,.b true]
  |none=> .t [.i .i64 0,.b false]
theorem genR_nr (n:Nat) (l:List UInt8):NR (genR n l):=by
  have:∀(a:Int) (b:Bool),NR (.t [.i .i64 a,.b b]):=fun a b=>tb_nr (.i _ _) b
  unfold genR
  split<;>exact this _ _
theorem genR_no {n:Nat} {l:List UInt8} (h:genC n l=none):genR n l= .t [.i .i64 0,.b false]:=by rw[genR,h]
theorem genR_yes {n:Nat} {l:List UInt8} {i:Nat} (h:genC n l=some i):genR n l= .t [.i .i64 i,.b true]:=by rw[genR,h]
theorem gb0 (b:UInt8):(ofL [b]).data.getD 0 0=b:=rfl
theorem impl_generatorOf_ok (n:Nat) (hn:n≤100) (l:List UInt8) (hl:l.length≤2097152):ACp Tryz.prog 61 [.i .i64 n,.s (ofL l)] (genR n l):=by
 refine ACp.intro' envOk Tryz.func61 rfl (by kernel_rfl) Tryz.ntmps61 Tryz.results61 (genR_nr _ _) (fun nx cX=> ?_)
 refine AW.sr envOk (fun N hN=> ?_)
 simp-dsimp-implicitDefEqProofs (disch:=(first|omega|((repeat refine LC.upd (by omega) ?_);assumption))) only[go_sem,undef,w64,w8,ofL_sz,gb0]
 refine hN _ ?_
 try clear hN N
 refine AW.seq (fun N1 hN1=> ?_)
 refine AW.sr envOk (fun N hN=> ?_)
 simp-dsimp-implicitDefEqProofs (disch:=(first|omega|((repeat refine LC.upd (by omega) ?_);assumption))) only[go_sem,undef,w64,w8,ofL_sz,gb0]
 refine gopB.mk' (fun h1=> ?_) (fun h1=> ?_)
 ·try simp only[cn]at h1
  have hl1:l.length=1:=by omega
  obtain⟨b,rfl⟩:∃b,l=[b]:=by
   match l,hl1 with
   |[b],_=>exact⟨b,rfl⟩
  have hb:=b.toNat_lt
  try simp-dsimp-implicitDefEqProofs (disch:=(first|omega|((repeat refine LC.upd (by omega) ?_);assumption))) only[go_sem,undef,w64,w8,ofL_sz,gb0]
  refine gopB.mk' (fun h2=> ?_) (fun h2=> ?_)
  ·try simp only[cn]at h2
   try simp-dsimp-implicitDefEqProofs (disch:=(first|omega|((repeat refine LC.upd (by omega) ?_);assumption))) only[go_sem,undef,w64,w8,ofL_sz,gb0]
   refine hN _ ?_
   try clear hN N
   refine AW.cond rfl (fun h3=> ?_) (fun h3=> ?_)
   ·try simp only[cn]at h3
    refine AW.sr envOk (fun N hN=> ?_)
    simp-dsimp-implicitDefEqProofs (disch:=(first|omega|((repeat refine LC.upd (by omega) ?_);assumption))) only[go_sem,undef,w64,w8,ofL_sz,gb0]
    refine hN _ ?_
    try clear hN N
    refine AW.ret ?_
    simp-dsimp-implicitDefEqProofs (disch:=(first|omega|((repeat refine LC.upd (by omega) ?_);assumption))) only[go_sem,undef]
    rw[genR_no (by rw[genC,if_neg (by omega)])]
   ·try simp only[cn]at h3
    refine AW.skip ?_
    simp only[thn,blk]
    refine hN1 _ ?_
    try clear hN1 N1
    refine AW.sr envOk (fun N hN=> ?_)
    simp-dsimp-implicitDefEqProofs (disch:=(first|omega|((repeat refine LC.upd (by omega) ?_);assumption))) only[go_sem,undef,w64,w8,ofL_sz,gb0]
    refine hN _ ?_
    try clear hN N
    refine AW.ret ?_
    simp-dsimp-implicitDefEqProofs (disch:=(first|omega|((repeat refine LC.upd (by omega) ?_);assumption))) only[go_sem,undef]
    rw[genR_yes (i:=b.toNat-97) (by rw[genC,if_pos (by omega)])]
    congr 3
    omega
  ·try simp only[cn]at h2
   try simp-dsimp-implicitDefEqProofs (disch:=(first|omega|((repeat refine LC.upd (by omega) ?_);assumption))) only[go_sem,undef,w64,w8,ofL_sz,gb0]
   refine hN _ ?_
   try clear hN N
   refine AW.condT rfl ?_
   refine AW.sr envOk (fun N hN=> ?_)
   simp-dsimp-implicitDefEqProofs (disch:=(first|omega|((repeat refine LC.upd (by omega) ?_);assumption))) only[go_sem,undef,w64,w8,ofL_sz,gb0]
   refine hN _ ?_
   try clear hN N
   refine AW.ret ?_
   simp-dsimp-implicitDefEqProofs (disch:=(first|omega|((repeat refine LC.upd (by omega) ?_);assumption))) only[go_sem,undef]
   rw[genR_no (by rw[genC,if_neg (by omega)])]
 ·try simp only[cn]at h1
  try simp-dsimp-implicitDefEqProofs (disch:=(first|omega|((repeat refine LC.upd (by omega) ?_);assumption))) only[go_sem,undef,w64,w8,ofL_sz,gb0]
  refine hN _ ?_
  try clear hN N
  refine AW.condT rfl ?_
  refine AW.sr envOk (fun N hN=> ?_)
  simp-dsimp-implicitDefEqProofs (disch:=(first|omega|((repeat refine LC.upd (by omega) ?_);assumption))) only[go_sem,undef,w64,w8,ofL_sz,gb0]
  refine hN _ ?_
  try clear hN N
  refine AW.ret ?_
  simp-dsimp-implicitDefEqProofs (disch:=(first|omega|((repeat refine LC.upd (by omega) ?_);assumption))) only[go_sem,undef]
  rw[genR_no]
  unfold genC
  split
  ·exact absurd rfl h1
  ·rfl
theorem bys_at {r:List UInt8} {k:Nat} (h:k<r.length):(bys (ofL r)).getD k .j= .i .u8 ((r.getD k 0).toNat:Int):=by
  rw[bys,ofL_l];simp[h]
theorem bys_ln (r:List UInt8):(bys (ofL r)).length=r.length:=by rw[bys_len,ofL_sz]
theorem parC_at {n:Nat} {r:List UInt8} {w:List Int} (h:parC n r=some w):w.length=r.length∧r≠ []∧∀k,k<r.length→w.getD k 0=((r.getD k 0).toNat:Int)-96∧97≤(r.getD k 0).toNat∧(r.getD k 0).toNat<97+n:=by
  unfold parC at h
  split at h
  · rename_i hc
    obtain⟨h1,h2⟩:=hc
    cases h
    simp only[List.all_eq_true,Bool.and_eq_true,decide_eq_true_eq]at h1
    exact⟨by simp,h2,fun k hk=>⟨by simp[hk],h1 (r.getD k 0) (by simp[hk])⟩⟩
  · cases h
theorem Vw.lc {H:HP} {a b:Nat} {L:AV} {cs:List AV} {n:Nat} (h:LC H a b L cs) (hn:n=cs.length):Vw H L (.v n cs):=by
  subst hn
  rcases h with ⟨rfl,rfl⟩|⟨id,rfl,h0,_⟩
  · exact .nl
  · exact Vw.fr h0 rfl
set_option maxHeartbeats 4000000 in
theorem impl_readWord_ok (n:Nat) (hn:n≤100) (r:List UInt8) (hr:r.length≤1048576) (w:List Int) (h:parC n r=some w):ACp Tryz.prog 72 [.i .i64 n,.s (ofL r)] (.t [ints w,.b true]):=by
 obtain⟨hwl,hne,hat⟩:=parC_at h
 have h49:¬(ofL r).toList=(⟨#[49]⟩:ByteArray).toList:=by
  intro e
  have e2:r=[49]:=toL_eq.1 e
  have:=(hat 0 (by rw[e2];decide)).2.1
  rw[e2]at this
  simp at this
 have hemp:¬(ofL r).toList=(⟨#[]⟩:ByteArray).toList:=fun e=>hne (toL_eq.1 e)
 refine ACp.introV envOk Tryz.func72 rfl (by kernel_rfl) Tryz.ntmps72 Tryz.results72 ((tb_nr (intsL2 _) _)) (fun nx cX=> ?_)
 refine AW.sr envOk (fun N hN=> ?_)
 simp-dsimp-implicitDefEqProofs (disch:=(first|omega|((repeat refine LC.upd (by omega) ?_);assumption))) only[go_sem,undef,w64,ofL_sz]
 refine hN _ ?_
 try clear hN N
 refine AW.seq (fun N1 hN1=> ?_)
 refine AW.sr envOk (fun N hN=> ?_)
 simp-dsimp-implicitDefEqProofs (disch:=(first|omega|((repeat refine LC.upd (by omega) ?_);assumption))) only[go_sem,undef,w64,ofL_sz]
 refine hN _ ?_
 try clear hN N
 refine AW.cond rfl (fun h1=> ?_) (fun h1=> ?_)
 ·try simp only[cn]at h1
  exact absurd h1 h49
 ·try simp only[cn]at h1
  refine AW.skip ?_
  simp only[thn,blk]
  refine hN1 _ ?_
  try clear hN1 N1
  refine AW.sr envOk (fun N hN=> ?_)
  simp-dsimp-implicitDefEqProofs (disch:=(first|omega|((repeat refine LC.upd (by omega) ?_);assumption))) only[go_sem,undef,w64,ofL_sz]
  refine hN _ ?_
  try clear hN N
  refine AW.seq (fun N2 hN2=> ?_)
  refine AW.sr envOk (fun N hN=> ?_)
  simp-dsimp-implicitDefEqProofs (disch:=(first|omega|((repeat refine LC.upd (by omega) ?_);assumption))) only[go_sem,undef,w64,ofL_sz]
  refine hN _ ?_
  try clear hN N
  refine AW.block ?_
  refine AW.loopN (α:=Nat×HP×AV) (fun x=>sl 51 [(0,.i .i64 n),(1,.s (ofL r)),(6,x.2.2),(13,.v r.length (bys (ofL r))),(14,.i .i64 r.length),(15,.i .i64 x.1)]) (fun x=>x.2.1) (fun x m=>x.1≤r.length∧nx≤m∧LC x.2.1 nx m x.2.2 ((w.take x.1).map (.i .i64))) (fun x=>r.length-x.1) ((0,noH,.nl)) ?_ ?_ (fun _ _ h=>h) ?_
  ·exact⟨by simp,by first|omega|(simp only;omega)|(dsimp only;omega),.nil⟩
  ·simp(disch:=omega) [wks,wkA,sl]
  ·skip
   rintro⟨k,G,L⟩ m ⟨hk,hm,hL⟩
   simp-dsimp-implicitDefEqProofs (disch:=(first|omega|((repeat refine LC.upd (by omega) ?_);assumption))) only[go_sem,undef]
   dsimp only at hk hm hL ⊢
   have hLo:=hL.one
   have hLl:=hL.len
   refine AW.sr envOk (fun N hN=> ?_)
   simp-dsimp-implicitDefEqProofs (disch:=(first|omega|((repeat refine LC.upd (by omega) ?_);assumption))) only[go_sem,undef,w64,ofL_sz]
   refine hN _ ?_
   try clear hN N
   refine AW.seq (fun N3 hN3=> ?_)
   refine AW.cond rfl (fun h2=> ?_) (fun h2=> ?_)
   ·try simp only[cn]at h2
    have hkr:k<r.length:=by omega
    obtain⟨hv,hb1,hb2⟩:=hat k hkr
    have hbk:=bys_at hkr
    have hbl:=bys_ln r
    have hcl:((w.take k).map (AV.i .i64)).length=k:=by rw[List.length_map,List.length_take];omega
    have htk:w.take (k+1)=w.take k++[w.getD k 0]:=by
     rw[List.take_succ_eq_append_getElem (by omega)];simp[show k<w.length by omega]
    have ew:((r.getD k 0).toNat:Int)-97+1=w.getD k 0:=by omega
    have hw1:(w.getD k 0==0)=false:=by rw[beq_eq_false_iff_ne];omega
    have d65:decide (((r.getD k 0).toNat:Int)<65)=false:=decide_eq_false (by omega)
    have hin:ACp Tryz.prog 37 [.i .i64 (w.getD k 0),.i .i64 (0-n),.i .i64 n] (.b true):=by
     have:=impl_inside_ok (w.getD k 0) (0-n) n
     rwa [tf_t (by omega)]at this
    refine AW.skip ?_
    simp only[thn,blk]
    refine hN3 _ ?_
    try clear hN3 N3
    refine AW.seq (fun N4 hN4=> ?_)
    refine AW.block ?_
    refine AW.sr envOk (fun N hN=> ?_)
    simp-dsimp-implicitDefEqProofs (disch:=(first|omega|((repeat refine LC.upd (by omega) ?_);assumption))) only[go_sem,undef,w64,ofL_sz,hbk,hbl,Int.toNat_natCast]
    refine hN _ ?_
    try clear hN N
    refine AW.sr envOk (fun N hN=> ?_)
    simp-dsimp-implicitDefEqProofs (disch:=(first|omega|((repeat refine LC.upd (by omega) ?_);assumption))) only[go_sem,undef,w64,ofL_sz,ew]
    refine hN _ ?_
    try clear hN N
    refine AW.seq (fun N5 hN5=> ?_)
    refine AW.sr envOk (fun N hN=> ?_)
    simp-dsimp-implicitDefEqProofs (disch:=(first|omega|((repeat refine LC.upd (by omega) ?_);assumption))) only[go_sem,undef,w64,ofL_sz]
    refine hN _ ?_
    try clear hN N
    refine AW.cond rfl (fun h3=> ?_) (fun h3=> ?_)
    ·try simp only[cn]at h3
     omega
    ·try simp only[cn]at h3
     refine AW.skip ?_
     simp only[thn,blk]
     refine hN5 _ ?_
     try clear hN5 N5
     refine AW.seq (fun N6 hN6=> ?_)
     refine AW.sr envOk (fun N hN=> ?_)
     simp-dsimp-implicitDefEqProofs (disch:=(first|omega|((repeat refine LC.upd (by omega) ?_);assumption))) only[go_sem,undef,w64,ofL_sz,d65,hw1]
     refine AC.pure (.of (hin)) ?_
     try simp-dsimp-implicitDefEqProofs (disch:=(first|omega|((repeat refine LC.upd (by omega) ?_);assumption))) only[go_sem,undef,w64,Bool.not_true]
     refine hN _ ?_
     try clear hN N
     refine AW.condF rfl ?_
     refine AW.skip ?_
     simp only[thn,blk]
     refine hN6 _ ?_
     try clear hN6 N6
     refine AW.regionL envOk ?_
     simp-dsimp-implicitDefEqProofs (disch:=(first|omega|((repeat refine LC.upd (by omega) ?_);assumption))) only[go_sem,undef,w64,ofL_sz,hLo,hLl,hcl,apst_LC (a:=nx) (b:=m) (L:=L) (cs:=(w.take k).map (.i .i64))]
     refine hN4 _ ?_
     try clear hN4 N4
     refine AW.nameH (fun G3 hG3=> ?_)
     dsimp only at hG3
     refine AW.regionL envOk ?_
     simp-dsimp-implicitDefEqProofs (disch:=(first|omega|((repeat refine LC.upd (by omega) ?_);assumption))) only[go_sem,undef,w64,ofL_sz]
     refine⟨(k+1,G3,.h (m+1+3+5+2+14+3) 0 (k+1)),?_,fun _ _ h=>h,?_,?_⟩
     ·simp(disch:=omega) [wks,wkA,sl,w64,ints,rows,cubes,w64,ofL_sz]<;>omega
     ·have hmk:LC G3 nx (m+1+3+5+2+14+5+2) (.h (m+1+3+5+2+14+3) 0 (k+1)) ((w.take (k+1)).map (.i .i64)):=LC.mk (by rw[←hG3,htk,List.map_append];simp(disch:=omega) only[upd_same];rfl) (by rw[List.length_map,List.length_take];omega) (by omega) (by omega)
      first|exact⟨by first|omega|(simp only;omega)|(dsimp only;omega),by first|omega|(simp only;omega)|(dsimp only;omega),hmk⟩|exact⟨by first|omega|(simp only;omega)|(dsimp only;omega),hmk⟩
     ·first|omega|(simp only;omega)
   ·try simp only[cn]at h2
    have hke:k=w.length:=by omega
    rw[hke,List.take_length]at hL
    refine AW.exit ?_
    simp only[thn,blk,if_true]
    refine hN2 _ ?_
    try clear hN2 N2
    refine AW.sr envOk (fun N hN=> ?_)
    simp-dsimp-implicitDefEqProofs (disch:=(first|omega|((repeat refine LC.upd (by omega) ?_);assumption))) only[go_sem,undef,w64,ofL_sz]
    refine hN _ ?_
    try clear hN N
    refine AW.ret ?_
    simp-dsimp-implicitDefEqProofs (disch:=(first|omega|((repeat refine LC.upd (by omega) ?_);assumption))) only[go_sem,undef]
    have hb:(!((ofL r).toList==(⟨#[]⟩:ByteArray).toList))=true:=by simpa using hemp
    rw[hb]
    exact vw_tb (Vw.lc hL (by simp))
end Go.Proofs.YthncdadmkppclaaGreatDoor
