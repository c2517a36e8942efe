import Derived.Test.YtghmeeifjeafmaaGreatZ35
set_option linter.unusedVariables false
set_option linter.unusedSimpArgs false
namespace Go.Proofs.YtghmeeifjeafmaaGreat
open Nat (reduceAdd reduceSub reduceGT reduceEqDiff reduceMul)
def spL (c:UInt8):List UInt8→List (List UInt8)
  |[]=>[[]]
  | b::l=>if b=c then []::spL c l else match spL c l with
    |x::xs=>(b::x)::xs
    |[]=>[[b]]
theorem spL_ne (c:UInt8):∀l,spL c l≠ []:=by
  intro l
  cases l with
  |nil=>simp[spL]
  | cons b l=>
    rw[spL];split
    · simp
    split<;>simp
theorem jnc_spL (c:UInt8):∀l,jnc c (spL c l)=l:=by
  intro l
  induction l with
  |nil=>rfl
  | cons b l ih=>
    rw[spL]
    split
    · rename_i h;subst h
      cases hs:spL b l with
      |nil=>exact absurd hs (spL_ne _ _)
      |cons x xs=>rw[hs]at ih;rw[jnc,ih];rfl
    cases hs:spL c l with
    |nil=>exact absurd hs (spL_ne _ _)
    | cons x xs=>
      rw[hs]at ih
      simp only
      cases xs with
      |nil=>rw[jnc]at ih ⊢;rw[ih]
      |cons y ys=>rw[jnc]at ih ⊢;rw[List.cons_append,ih]
theorem spL_cnt (c:UInt8):∀l,∀p,p∈spL c l→p.count c=0:=by
  intro l
  induction l with
  |nil=>intro p hp;simp[spL]at hp;subst hp;rfl
  | cons b l ih=>
    intro p hp
    rw[spL]at hp
    split at hp
    · rcases List.mem_cons.1 hp with rfl|hp
      · rfl
      exact ih p hp
    rename_i hb
    cases hs:spL c l with
    |nil=>exact absurd hs (spL_ne _ _)
    | cons x xs=>
      rw[hs]at hp ih
      simp only at hp
      rcases List.mem_cons.1 hp with rfl|hp
      · rw[List.count_cons_of_ne hb];exact ih x (List.mem_cons_self ..)
      exact ih p (List.mem_cons_of_mem _ hp)
theorem spw_L (c:UInt8) (l:List UInt8):spw c (ofL l)=(spL c l).map ofL:=by
  have h:=spw_jnc c (spL c l) (spL_ne c l) (spL_cnt c l)
  rwa [jnc_spL]at h
theorem ib_at {c:UInt8}:∀{l:List UInt8} {m:Nat},l[m]? =some c→(∀j,j<m→l[j]?≠some c)→Lib.indexByte l c=m:=by
  intro l
  induction l with
  |nil=>intro m h;simp at h
  | cons b l ih=>
    intro m h hn
    cases m with
    | zero=>
      simp only[List.getElem?_cons_zero,Option.some.injEq]at h
      subst h
      simp[Lib.indexByte]
    | succ m=>
      have hb:(b==c)=false:=by
        have:=hn 0 (by omega)
        simpa using this
      have h1:=ih (m:=m) (by simpa using h) (fun j hj=>by have:=hn (j+1) (by omega);simpa using this)
      have:¬((m:Int)= -1):=by omega
      simp[Lib.indexByte,hb,h1,this]
theorem cnt_none {c:UInt8}:∀{l:List UInt8},(∀j,j<l.length→l[j]?≠some c)→l.count c=0:=by
  intro l h
  rw[List.count_eq_zero]
  intro hm
  obtain⟨j,hj,e⟩:=List.mem_iff_getElem.1 hm
  exact h j hj (by rw[List.getElem?_eq_getElem hj,e])
def Scan (c:UInt8) (s:ByteArray) (i k f:Nat):Prop:=
  i≤s.size∧f≤i∧k≤cnt c s∧(rst c k s).data.toList=s.data.toList.drop f∧∀j,f≤j→j<i→s.data.toList[j]?≠some c
theorem szl (s:ByteArray):s.data.toList.length=s.size:=by rw[Array.length_toList];rfl
theorem toL_inj {a b:ByteArray} (h:a.data.toList=b.data.toList):a=b:=by
  rw[←ofL_to a,←ofL_to b,h]
theorem Scan.start (c:UInt8) (s:ByteArray):Scan c s 0 0 0:=⟨by omega,by omega,by omega,by simp[rst],by intro j _ h;omega⟩
theorem Scan.no {c:UInt8} {s:ByteArray} {i k f:Nat} (h:Scan c s i k f) (hi:i<s.size) (hb:s.data.toList[i]?≠some c):Scan c s (i+1) k f:=by
  obtain⟨h1,h2,h3,h4,h5⟩:=h
  refine⟨by omega,by omega,h3,h4,fun j hj hj2=>?_⟩
  by_cases e:j=i
  · subst e;exact hb
  exact h5 j hj (by omega)
theorem Scan.yes {c:UInt8} {s:ByteArray} {i k f:Nat} (h:Scan c s i k f) (hb:s.data.toList[i]? =some c):Scan c s (i+1) (k+1) (i+1)∧pcs c (k+1) s=pcs c k s++[s.extract f i]:=by
  obtain⟨h1,h2,h3,h4,h5⟩:=h
  have hlt:i<s.size:=by
    have:=(List.getElem?_eq_some_iff.1 hb).1;rw[szl]at this;exact this
  have hib:Lib.indexByte (rst c k s).data.toList c=((i-f:Nat):Int):=by
    rw[h4]
    refine ib_at (by rw[List.getElem?_drop,show f+(i-f)=i by omega];exact hb) (fun j hj=>?_)
    rw[List.getElem?_drop];exact h5 _ (by omega) (by omega)
  have hcut:cutAt c (rst c k s)=i-f:=by unfold cutAt;rw[hib];rfl
  have hpos:0<cnt c (rst c k s):=by
    unfold cnt;rw[h4]
    exact List.count_pos_iff.2 (List.mem_of_getElem? (i:=i-f) (by rw[List.getElem?_drop,show f+(i-f)=i by omega];exact hb))
  have hrc:=rst_cnt c s k h3
  have hsz:(rst c k s).size=s.size-f:=by rw[←szl,h4,List.length_drop,szl]
  refine⟨⟨by omega,by omega,by omega,?_,by intro j hj hj2;omega⟩,?_⟩
  · rw[rst,ext_l,hcut,h4,hsz,List.drop_drop,List.take_of_length_le (by rw[List.length_drop,szl];omega)]
    congr 1;omega
  rw[pcs,hcut]
  congr 2
  apply toL_inj
  rw[ext_l,ext_l,h4,List.drop_zero,Nat.sub_zero]
theorem Scan.done {c:UInt8} {s:ByteArray} {k f:Nat} (h:Scan c s s.size k f):k=cnt c s∧spw c s=pcs c k s++[s.extract f s.size]:=by
  obtain⟨h1,h2,h3,h4,h5⟩:=h
  have h0:cnt c (rst c k s)=0:=by
    unfold cnt;rw[h4]
    refine cnt_none (fun j hj=>?_)
    rw[List.length_drop,szl]at hj
    rw[List.getElem?_drop];exact h5 _ (by omega) (by omega)
  have hrc:=rst_cnt c s k h3
  have hk:k=cnt c s:=by omega
  refine⟨hk,?_⟩
  unfold spw
  rw[←hk]
  congr 2
  apply toL_inj
  rw[h4,ext_l,List.take_of_length_le (by rw[List.length_drop,szl];omega)]
theorem byte_at {s:ByteArray} {i:Nat} {c:UInt8} (hi:i<s.size):(((s.data.getD i 0).toNat:Int)=(c.toNat:Int))↔s.data.toList[i]? =some c:=by
  have h:s.data.toList[i]? =some (s.data.getD i 0):=by
    rw[Array.getElem?_toList,Array.getD_eq_getD_getElem?]
    have:i<s.data.size:=hi
    rw[Array.getElem?_eq_getElem this];rfl
  rw[h,Option.some.injEq]
  constructor
  · intro e;exact UInt8.toNat_inj.1 (by omega)
  intro e;rw[e]
set_option maxHeartbeats 2000000 in theorem spec_l01Split_ok (s:ByteArray) (c:UInt8) (hs:s.size≤2097152):ACp Tryz.prog 160 [.s s,.i .u8 c.toNat] (strs (spw c s)):=by
 refine ACp.introV envOk Tryz.func160 rfl (by kernel_rfl) Tryz.ntmps160 Tryz.results160 ((strs_nr _)) (fun nx cX=>?_)
 refine AW.sr envOk (fun N hN=>?_);simp-dsimp-implicitDefEqProofs (disch:=omega)only[go_sem];refine hN _ ?_;try clear hN N
 refine AW.sr envOk (fun N hN=>?_);simp-dsimp-implicitDefEqProofs (disch:=omega)only[go_sem];refine hN _ ?_;try clear hN N
 refine AW.seq (fun N1 hN1=>?_);refine AW.sr envOk (fun N hN=>?_);simp-dsimp-implicitDefEqProofs (disch:=omega)only[go_sem];refine hN _ ?_;try clear hN N
 refine AW.block ?_;refine AW.loopN (α:=Nat×Nat×Nat×Nat) (fun x=>sl 35 [(0,.s s),(1,.i .u8 c.toNat),(5,.h x.2.2.2 0 x.2.1),(6,.i .i64 x.2.2.1),(7,.i .i64 x.1)]) (fun x=>upd noH x.2.2.2 (some ((pcs c x.2.1 s).map .s))) (fun x m=>Scan c s x.1 x.2.1 x.2.2.1∧x.2.2.2<m) (fun x=>s.size-x.1) ((0,0,0,nx+1+0)) ?_ ?_ (fun _ _ h=>h) ?_
 ·exact⟨Scan.start c s,by first|omega|(simp only;omega)|(dsimp only;omega)⟩
 ·simp(disch:=omega) [wks,wkA,sl,w64,ints,rows,cubes,w64]<;>omega
 skip
 rintro⟨i,k,f,id⟩ m ⟨hsc,hid⟩
 simp only at hsc hid ⊢
 have hpl:=pcs_len c s k
 have hi1:=hsc.1
 have hi2:=hsc.2.1
 have hk3:=hsc.2.2.1
 have hcs:=cnt_sz c s
 have g1:(k+1)*16≤140737488355328:=by omega
 have g2:k+1≤9223372036854775807:=by omega
 have htk:List.take k ((pcs c k s).map AV.s)=(pcs c k s).map .s:=List.take_of_length_le (by rw[List.length_map];omega)
 refine AW.seq (fun N2 hN2=>?_);refine AW.sr envOk (fun N hN=>?_);simp-dsimp-implicitDefEqProofs (disch:=omega)only[go_sem];refine hN _ ?_;try clear hN N
 refine AW.cond rfl (fun h1=>?_) (fun h1=>?_)
 ·try simp only[cn]at h1
  refine AW.skip ?_;simp only[thn,blk];refine hN2 _ ?_;try clear hN2 N2
  refine AW.seq (fun N3 hN3=>?_);refine AW.block ?_;refine AW.sr envOk (fun N hN=>?_);simp-dsimp-implicitDefEqProofs (disch:=omega)only[go_sem,Int.toNat_natCast];refine hN _ ?_;try clear hN N
  refine AW.cond rfl (fun h2=>?_) (fun h2=>?_)
  ·try simp only[cn]at h2
   have hb:=(byte_at (by omega)).1 h2
   have hy:=hsc.yes hb
   refine AW.sr envOk (fun N hN=>?_);simp-dsimp-implicitDefEqProofs (disch:=omega)only[go_sem,Int.toNat_natCast,htk,g1,g2];refine hN _ ?_;try clear hN N
   refine AW.regionL envOk ?_;simp-dsimp-implicitDefEqProofs (disch:=omega)only[go_sem];refine hN3 _ ?_;try clear hN3 N3
   refine AW.regionL envOk ?_;simp-dsimp-implicitDefEqProofs (disch:=omega)only[go_sem];refine⟨(i+1,k+1,i+1,_),?_,by rw[hy.2,List.map_append];exact le_one (upd_same _ _ _),?_,?_⟩
   ·simp(disch:=omega) [wks,wkA,sl,w64,ints,rows,cubes,w64]<;>omega
   ·exact⟨hy.1,by first|omega|(simp only;omega)|(dsimp only;omega)⟩
   first|omega|(simp only;omega)
  try simp only[cn]at h2
  have hb:=fun e=>h2 ((byte_at (c:=c) (by omega)).2 e)
  have hy:=hsc.no (by omega) hb
  refine AW.skip ?_;simp only[thn,blk];refine hN3 _ ?_;try clear hN3 N3
  refine AW.regionL envOk ?_;simp-dsimp-implicitDefEqProofs (disch:=omega)only[go_sem];refine⟨(i+1,k,f,id),?_,fun _ _ h=>h,?_,?_⟩
  ·simp(disch:=omega) [wks,wkA,sl,w64,ints,rows,cubes,w64]<;>omega
  ·exact⟨hy,by first|omega|(simp only;omega)|(dsimp only;omega)⟩
  first|omega|(simp only;omega)
 try simp only[cn]at h1
 obtain rfl:i=s.size:=by omega
 have hd:=hsc.done
 refine AW.exit ?_;simp only[thn,blk,if_true];refine hN1 _ ?_;try clear hN1 N1
 refine AW.sr envOk (fun N hN=>?_);simp-dsimp-implicitDefEqProofs (disch:=omega)only[go_sem,Int.toNat_natCast,htk,g1,g2];refine hN _ ?_;try clear hN N
 refine AW.ret ?_;simp-dsimp-implicitDefEqProofs (disch:=omega)only[go_sem];unfold strs
 rw[spw_len,←hd.1,hd.2,List.map_append]
 exact vw_hall (by simp[hpl])
open Nat (reduceAdd reduceSub reduceGT reduceEqDiff reduceMul)
def byt (s:ByteArray) (i:Nat):Int:=((s.data.getD i 0).toNat:Int)
theorem byt_le (s:ByteArray) (i:Nat):0≤byt s i∧byt s i≤255:=by
  have:=(s.data.getD i 0).toNat_lt
  unfold byt;omega
def vpre (s:ByteArray):Nat→Int
  |0=>0
  |i+1=>10*vpre s i+(byt s i-48)
def isDig (s:ByteArray) (i:Nat):Prop:=48≤byt s i∧byt s i≤57
def digs (s:ByteArray):Prop:=∀i,i<s.size→isDig s i
open Classical in
noncomputable def valS (s:ByteArray):Int:=
  if s.size=0∨6<s.size∨(1<s.size∧byt s 0=48)then-1 else if digs s then vpre s s.size else-1
theorem vpre_le {s:ByteArray}:∀i,(∀j,j<i→isDig s j)→0≤vpre s i∧vpre s i<10^i:=by
  intro i
  induction i with
  |zero=>intro _;rw[vpre];exact⟨by decide,by decide⟩
  | succ i ih=>
    intro h
    have h1:=ih (fun j hj=>h j (by omega))
    have h2:=h i (by omega)
    have h3:(10:Int)^(i+1)=10*10^i:=by rw[Int.pow_succ];omega
    unfold isDig at h2
    rw[vpre,h3];omega
theorem vpre_6 {s:ByteArray} {i:Nat} (hi:i≤6) (h:∀j,j<i→isDig s j):0≤vpre s i∧vpre s i<1000000:=by
  have h1:=vpre_le i h
  have h2:(10:Int)^i≤1000000:=by
    match i,hi with
    |0,_=>decide
    |1,_=>decide
    |2,_=>decide
    |3,_=>decide
    |4,_=>decide
    |5,_=>decide
    |6,_=>decide
  omega
theorem val_bad {s:ByteArray} (h:s.size=0∨6<s.size∨(1<s.size∧byt s 0=48)):valS s= -1:=by rw[valS,if_pos h]
theorem val_no {s:ByteArray} {k:Nat} (hk:k<s.size) (h:¬isDig s k):valS s= -1:=by
  rw[valS];split
  · rfl
  rw[if_neg (fun hd=>h (hd k hk))]
theorem val_yes {s:ByteArray} (h:¬(s.size=0∨6<s.size∨(1<s.size∧byt s 0=48))) (hd:∀j,j<s.size→isDig s j):valS s=vpre s s.size:=by
  rw[valS,if_neg h];exact if_pos (show digs s from hd)
theorem dig_nx {s:ByteArray} {k:Nat} (hd:∀j,j<k→isDig s j) (hk:isDig s k):∀j,j<k+1→isDig s j:=by
  intro j hj
  by_cases e:j=k
  · subst e;exact hk
  exact hd j (by omega)
theorem w8 {n:Int} (h0:0≤n) (h1:n≤255):IntKind.u8.wrap n=n:=by
  simp only[IntKind.wrap,IntKind.bits,IntKind.signed,Bool.false_and,Bool.false_eq_true,if_false]
  omega
set_option maxHeartbeats 2000000 in theorem spec_l01Value_ok (s:ByteArray):ACp Tryz.prog 164 [.s s] (.i .i64 (valS s)):=by
 refine ACp.intro' envOk Tryz.func164 rfl (by kernel_rfl) Tryz.ntmps164 Tryz.results164 (.i _ _) (fun nx cX=>?_)
 refine AW.sr envOk (fun N hN=>?_);simp-dsimp-implicitDefEqProofs (disch:=omega)only[go_sem];refine hN _ ?_;try clear hN N
 refine AW.seq (fun N1 hN1=>?_);refine AW.sr envOk (fun N hN=>?_);simp-dsimp-implicitDefEqProofs (disch:=omega)only[go_sem];refine gopB.mk' (fun h1=>?_) (fun h1=>?_)
 ·try simp only[cn]at h1
  try simp-dsimp-implicitDefEqProofs (disch:=omega)only[go_sem]
  refine gopB.mk' (fun h2=>?_) (fun h2=>?_)
  ·try simp only[cn]at h2
   try simp-dsimp-implicitDefEqProofs (disch:=omega)only[go_sem]
   refine gopB.mk' (fun h3=>?_) (fun h3=>?_)
   ·try simp only[cn]at h3
    try simp-dsimp-implicitDefEqProofs (disch:=omega)only[go_sem]
    refine hN _ ?_;try clear hN N
    refine AW.cond rfl (fun h4=>?_) (fun h4=>?_)
    ·try simp only[cn]at h4
     refine AW.sr envOk (fun N hN=>?_);simp-dsimp-implicitDefEqProofs (disch:=omega)only[go_sem];refine hN _ ?_;try clear hN N
     refine AW.ret ?_;simp-dsimp-implicitDefEqProofs (disch:=omega)only[go_sem];exact congrArg _ (val_bad (.inr (.inr ⟨by omega,h4⟩))).symm
    try simp only[cn]at h4
    have hok:¬(s.size=0∨6<s.size∨(1<s.size∧byt s 0=48)):=by
     rintro(h|h|⟨_,h⟩)
     ·omega
     ·omega
     exact h4 h
    refine AW.skip ?_;simp only[thn,blk];refine hN1 _ ?_;try clear hN1 N1
    refine AW.sr envOk (fun N hN=>?_);simp-dsimp-implicitDefEqProofs (disch:=omega)only[go_sem];refine hN _ ?_;try clear hN N
    refine AW.seq (fun N2 hN2=>?_);refine AW.sr envOk (fun N hN=>?_);simp-dsimp-implicitDefEqProofs (disch:=omega)only[go_sem];refine hN _ ?_;try clear hN N
    refine AW.block ?_;refine AW.loopN (α:=Nat) (fun x=>sl 48 [(0,.s s),(3,.i .i64 (vpre s x)),(4,.i .i64 x)]) (fun _=>noH) (fun x m=>x≤s.size∧∀j,j<x→isDig s j) (fun x=>s.size-x) (0) ?_ ?_ (fun _ _ h=>h) ?_
    ·exact⟨by omega,by intro j hj;omega⟩
    ·simp(disch:=omega) [wks,wkA,sl,vpre]
    skip
    rintro k m ⟨hk,hd⟩
    have hv:=vpre_6 (s:=s) (i:=k) (by omega) hd
    have hb:=byt_le s k
    refine AW.seq (fun N3 hN3=>?_);refine AW.sr envOk (fun N hN=>?_);simp-dsimp-implicitDefEqProofs (disch:=omega)only[go_sem];refine hN _ ?_;try clear hN N
    refine AW.cond rfl (fun h5=>?_) (fun h5=>?_)
    ·try simp only[cn]at h5
     have hk2:k<s.size:=by omega
     refine AW.skip ?_;simp only[thn,blk];refine hN3 _ ?_;try clear hN3 N3
     refine AW.seq (fun N4 hN4=>?_);refine AW.block ?_;refine AW.seq (fun N5 hN5=>?_);refine AW.sr envOk (fun N hN=>?_);simp-dsimp-implicitDefEqProofs (disch:=omega)only[go_sem];refine gopB.mk' (fun h6=>?_) (fun h6=>?_)
     ·try simp only[cn]at h6
      try simp-dsimp-implicitDefEqProofs (disch:=omega)only[go_sem]
      refine hN _ ?_;try clear hN N
      refine AW.cond rfl (fun h7=>?_) (fun h7=>?_)
      ·try simp only[cn]at h7
       refine AW.sr envOk (fun N hN=>?_);simp-dsimp-implicitDefEqProofs (disch:=omega)only[go_sem];refine hN _ ?_;try clear hN N
       refine AW.ret ?_;simp-dsimp-implicitDefEqProofs (disch:=omega)only[go_sem];exact congrArg _ (val_no hk2 (fun hd=>by unfold isDig byt at hd;omega)).symm
      try simp only[cn]at h7
      have hdk:isDig s k:=by unfold isDig byt;omega
      refine AW.skip ?_;simp only[thn,blk];refine hN5 _ ?_;try clear hN5 N5
      refine AW.regionL envOk ?_;simp-dsimp-implicitDefEqProofs (disch:=omega)only[go_sem,w8];refine hN4 _ ?_;try clear hN4 N4
      refine AW.regionL envOk ?_;simp-dsimp-implicitDefEqProofs (disch:=omega)only[go_sem];refine⟨k+1,?_,fun _ _ h=>h,?_,?_⟩
      ·simp(disch:=omega) [wks,wkA,sl,vpre,byt,w64,w8]
      ·exact⟨by omega,dig_nx hd hdk⟩
      first|omega|(simp only;omega)
     try simp only[cn]at h6
     try simp-dsimp-implicitDefEqProofs (disch:=omega)only[go_sem]
     refine hN _ ?_;try clear hN N
     refine AW.condT rfl ?_;refine AW.sr envOk (fun N hN=>?_);simp-dsimp-implicitDefEqProofs (disch:=omega)only[go_sem];refine hN _ ?_;try clear hN N
     refine AW.ret ?_;simp-dsimp-implicitDefEqProofs (disch:=omega)only[go_sem];exact congrArg _ (val_no hk2 (fun hd=>by unfold isDig byt at hd;omega)).symm
    try simp only[cn]at h5
    obtain rfl:k=s.size:=by omega
    refine AW.exit ?_;simp only[thn,blk,if_true];refine hN2 _ ?_;try clear hN2 N2
    refine AW.sr envOk (fun N hN=>?_);simp-dsimp-implicitDefEqProofs (disch:=omega)only[go_sem,w8];refine hN _ ?_;try clear hN N
    refine AW.ret ?_;simp-dsimp-implicitDefEqProofs (disch:=omega)only[go_sem];exact congrArg _ (val_yes hok hd).symm
   try simp only[cn]at h3
   have hok:¬(s.size=0∨6<s.size∨(1<s.size∧byt s 0=48)):=by
    rintro(h|h|⟨h,_⟩)<;>omega
   try simp-dsimp-implicitDefEqProofs (disch:=omega)only[go_sem]
   refine hN _ ?_;try clear hN N
   refine AW.condF rfl ?_;refine AW.skip ?_;simp only[thn,blk];refine hN1 _ ?_;try clear hN1 N1
   refine AW.sr envOk (fun N hN=>?_);simp-dsimp-implicitDefEqProofs (disch:=omega)only[go_sem];refine hN _ ?_;try clear hN N
   refine AW.seq (fun N6 hN6=>?_);refine AW.sr envOk (fun N hN=>?_);simp-dsimp-implicitDefEqProofs (disch:=omega)only[go_sem];refine hN _ ?_;try clear hN N
   refine AW.block ?_;refine AW.loopN (α:=Nat) (fun x=>sl 48 [(0,.s s),(3,.i .i64 (vpre s x)),(4,.i .i64 x)]) (fun _=>noH) (fun x m=>x≤s.size∧∀j,j<x→isDig s j) (fun x=>s.size-x) (0) ?_ ?_ (fun _ _ h=>h) ?_
   ·exact⟨by omega,by intro j hj;omega⟩
   ·simp(disch:=omega) [wks,wkA,sl,vpre]
   skip
   rintro k m ⟨hk,hd⟩
   have hv:=vpre_6 (s:=s) (i:=k) (by omega) hd
   have hb:=byt_le s k
   refine AW.seq (fun N7 hN7=>?_);refine AW.sr envOk (fun N hN=>?_);simp-dsimp-implicitDefEqProofs (disch:=omega)only[go_sem];refine hN _ ?_;try clear hN N
   refine AW.cond rfl (fun h8=>?_) (fun h8=>?_)
   ·try simp only[cn]at h8
    have hk2:k<s.size:=by omega
    refine AW.skip ?_;simp only[thn,blk];refine hN7 _ ?_;try clear hN7 N7
    refine AW.seq (fun N8 hN8=>?_);refine AW.block ?_;refine AW.seq (fun N9 hN9=>?_);refine AW.sr envOk (fun N hN=>?_);simp-dsimp-implicitDefEqProofs (disch:=omega)only[go_sem];refine gopB.mk' (fun h9=>?_) (fun h9=>?_)
    ·try simp only[cn]at h9
     try simp-dsimp-implicitDefEqProofs (disch:=omega)only[go_sem]
     refine hN _ ?_;try clear hN N
     refine AW.cond rfl (fun h10=>?_) (fun h10=>?_)
     ·try simp only[cn]at h10
      refine AW.sr envOk (fun N hN=>?_);simp-dsimp-implicitDefEqProofs (disch:=omega)only[go_sem];refine hN _ ?_;try clear hN N
      refine AW.ret ?_;simp-dsimp-implicitDefEqProofs (disch:=omega)only[go_sem];exact congrArg _ (val_no hk2 (fun hd=>by unfold isDig byt at hd;omega)).symm
     try simp only[cn]at h10
     have hdk:isDig s k:=by unfold isDig byt;omega
     refine AW.skip ?_;simp only[thn,blk];refine hN9 _ ?_;try clear hN9 N9
     refine AW.regionL envOk ?_;simp-dsimp-implicitDefEqProofs (disch:=omega)only[go_sem,w8];refine hN8 _ ?_;try clear hN8 N8
     refine AW.regionL envOk ?_;simp-dsimp-implicitDefEqProofs (disch:=omega)only[go_sem];refine⟨k+1,?_,fun _ _ h=>h,?_,?_⟩
     ·simp(disch:=omega) [wks,wkA,sl,vpre,byt,w64,w8]
     ·exact⟨by omega,dig_nx hd hdk⟩
     first|omega|(simp only;omega)
    try simp only[cn]at h9
    try simp-dsimp-implicitDefEqProofs (disch:=omega)only[go_sem]
    refine hN _ ?_;try clear hN N
    refine AW.condT rfl ?_;refine AW.sr envOk (fun N hN=>?_);simp-dsimp-implicitDefEqProofs (disch:=omega)only[go_sem];refine hN _ ?_;try clear hN N
    refine AW.ret ?_;simp-dsimp-implicitDefEqProofs (disch:=omega)only[go_sem];exact congrArg _ (val_no hk2 (fun hd=>by unfold isDig byt at hd;omega)).symm
   try simp only[cn]at h8
   obtain rfl:k=s.size:=by omega
   refine AW.exit ?_;simp only[thn,blk,if_true];refine hN6 _ ?_;try clear hN6 N6
   refine AW.sr envOk (fun N hN=>?_);simp-dsimp-implicitDefEqProofs (disch:=omega)only[go_sem,w8];refine hN _ ?_;try clear hN N
   refine AW.ret ?_;simp-dsimp-implicitDefEqProofs (disch:=omega)only[go_sem];exact congrArg _ (val_yes hok hd).symm
  try simp only[cn]at h2
  try simp-dsimp-implicitDefEqProofs (disch:=omega)only[go_sem]
  refine hN _ ?_;try clear hN N
  refine AW.condT rfl ?_;refine AW.sr envOk (fun N hN=>?_);simp-dsimp-implicitDefEqProofs (disch:=omega)only[go_sem];refine hN _ ?_;try clear hN N
  refine AW.ret ?_;simp-dsimp-implicitDefEqProofs (disch:=omega)only[go_sem];exact congrArg _ (val_bad (.inr (.inl (by omega)))).symm
 try simp only[cn]at h1
 try simp-dsimp-implicitDefEqProofs (disch:=omega)only[go_sem]
 refine hN _ ?_;try clear hN N
 refine AW.condT rfl ?_;refine AW.sr envOk (fun N hN=>?_);simp-dsimp-implicitDefEqProofs (disch:=omega)only[go_sem];refine hN _ ?_;try clear hN N
 refine AW.ret ?_;simp-dsimp-implicitDefEqProofs (disch:=omega)only[go_sem];exact congrArg _ (val_bad (.inl (by omega))).symm
end Go.Proofs.YtghmeeifjeafmaaGreat
namespace Go.Proofs.YtghmeeifjeafmaaGreat
open Nat (reduceAdd reduceSub reduceGT reduceEqDiff reduceMul)
def pl1 (n b:Int):Option Int:=if 1≤b-97+1∧b-97+1≤n then some (b-97+1)else if 1≤b-65+1∧b-65+1≤n then some (-(b-65+1))else none
def ltrs (n:Int) (s:ByteArray) (i:Nat):List Int:=(List.range i).map fun j=>(pl1 n (byt s j)).getD 0
def plAll (n:Int) (s:ByteArray):Prop:=∀j,j<s.size→pl1 n (byt s j)≠none
open Classical in
noncomputable def parW (n:Int) (s:ByteArray):List Int:=if s.toList=(⟨#[49]⟩:ByteArray).toList then []else if plAll n s then ltrs n s s.size else []
open Classical in
noncomputable def parB (n:Int) (s:ByteArray):Bool:=if s.toList=(⟨#[49]⟩:ByteArray).toList then true else if plAll n s then decide ((s.size:Int)>0)else false
noncomputable def parR (n:Int) (s:ByteArray):AV:= .t [ints (parW n s),.b (parB n s)]
theorem tb_nr {x:AV} (h:NR x) (e:Bool):NR (.t [x,.b e]):= .t _ fun k y hk=>by
  match k,hk with
  |0,hk=>cases hk;exact h
  |1,hk=>cases hk;exact .b _
theorem vw_tb {H:HP} {a b x:AV} (h:Vw H a b):Vw H (.t [a,x]) (.t [b,x]):= .t _ _ rfl fun k u v hu hv=>by
  match k,hu,hv with
  |0,hu,hv=>cases hu;cases hv;exact h
  |1,hu,hv=>cases hu;cases hv;exact .refl _
theorem ltrs_len (n:Int) (s:ByteArray) (i:Nat):(ltrs n s i).length=i:=by simp[ltrs]
theorem ltrs_s {n:Int} {s:ByteArray} {i:Nat} {l:Int} (h:pl1 n (byt s i)=some l):ltrs n s (i+1)=ltrs n s i++[l]:=by
  rw[ltrs,List.range_succ,List.map_append,List.map_cons,List.map_nil,h];rfl
theorem intsL2 (a:List Int):NR (ints a):= .v _ _ fun k x h=>by
  rw[List.getElem?_map]at h
  obtain⟨y,_,rfl⟩:=Option.map_eq_some_iff.1 h
  exact .i _ _
noncomputable def lcs (n:Int) (s:ByteArray) (i:Nat):List AV:=(ltrs n s i).map (.i .i64)
theorem lcs_len (n:Int) (s:ByteArray) (i:Nat):(lcs n s i).length=i:=by rw[lcs,List.length_map,ltrs_len]
theorem lcs_s {n:Int} {s:ByteArray} {i:Nat} {l:Int} (h:pl1 n (byt s i)=some l):lcs n s (i+1)=lcs n s i++[.i .i64 l]:=by
  rw[lcs,ltrs_s h,List.map_append];rfl
theorem pl_a {n b:Int} (h:1≤b-97+1∧b-97+1≤n):pl1 n b=some (b-97+1):=by rw[pl1,if_pos h]
theorem pl_b {n b:Int} (h:¬(1≤b-97+1∧b-97+1≤n)) (h2:1≤b-65+1∧b-65+1≤n):pl1 n b=some (-(b-65+1)):=by rw[pl1,if_neg h,if_pos h2]
theorem pl_n {n b:Int} (h:¬(1≤b-97+1∧b-97+1≤n)) (h2:¬(1≤b-65+1∧b-65+1≤n)):pl1 n b=none:=by rw[pl1,if_neg h,if_neg h2]
theorem par_one {n:Int} {s:ByteArray} (h:s.toList=(⟨#[49]⟩:ByteArray).toList):parR n s= .t [ints [],.b true]:=by rw[parR,parW,parB,if_pos h,if_pos h]
theorem par_no {n:Int} {s:ByteArray} {k:Nat} (h:¬s.toList=(⟨#[49]⟩:ByteArray).toList) (hk:k<s.size) (hn:pl1 n (byt s k)=none):parR n s= .t [ints [],.b false]:=by
  have:¬plAll n s:=fun ha=>ha k hk hn
  rw[parR,parW,parB,if_neg h,if_neg h,if_neg this,if_neg this]
theorem par_yes {n:Int} {s:ByteArray} (h:¬s.toList=(⟨#[49]⟩:ByteArray).toList) (ha:plAll n s):parR n s= .t [.v s.size (lcs n s s.size),.b (decide ((s.size:Int)>0))]:=by
  rw[parR,parW,parB,if_neg h,if_neg h,if_pos ha,if_pos ha,ints,ltrs_len];rfl
theorem pl_nx {n:Int} {s:ByteArray} {k:Nat} {l:Int} (hd:∀j,j<k→pl1 n (byt s j)≠none) (h:pl1 n (byt s k)=some l):∀j,j<k+1→pl1 n (byt s j)≠none:=by
  intro j hj
  by_cases e:j=k
  · subst e;rw[h];simp
  exact hd j (by omega)
set_option maxHeartbeats 4000000 in theorem spec_l06Parse_ok (n:Int) (s:ByteArray) (hs:s.size≤2097152):ACp Tryz.prog 165 [.i .i64 n,.s s] (parR n s):=by
 refine ACp.introV envOk Tryz.func165 rfl (by kernel_rfl) Tryz.ntmps165 Tryz.results165 ((tb_nr (intsL2 _) _)) (fun nx cX=>?_)
 refine AW.sr envOk (fun N hN=>?_);simp-dsimp-implicitDefEqProofs (disch:=omega)only[go_sem];refine hN _ ?_;try clear hN N
 refine AW.seq (fun N1 hN1=>?_);refine AW.sr envOk (fun N hN=>?_);simp-dsimp-implicitDefEqProofs (disch:=omega)only[go_sem];refine hN _ ?_;try clear hN N
 refine AW.cond rfl (fun h1=>?_) (fun h1=>?_)
 ·try simp only[cn]at h1
  refine AW.sr envOk (fun N hN=>?_);simp-dsimp-implicitDefEqProofs (disch:=omega)only[go_sem];refine hN _ ?_;try clear hN N
  refine AW.ret ?_;simp-dsimp-implicitDefEqProofs (disch:=omega)only[go_sem];rw[par_one h1];exact vw_tb (vw_hall (cs:=[]) rfl)
 try simp only[cn]at h1
 refine AW.skip ?_;simp only[thn,blk];refine hN1 _ ?_;try clear hN1 N1
 refine AW.sr envOk (fun N hN=>?_);simp-dsimp-implicitDefEqProofs (disch:=omega)only[go_sem];refine hN _ ?_;try clear hN N
 refine AW.seq (fun N2 hN2=>?_);refine AW.sr envOk (fun N hN=>?_);simp-dsimp-implicitDefEqProofs (disch:=omega)only[go_sem];refine hN _ ?_;try clear hN N
 refine AW.block ?_;refine AW.loopN (α:=Nat×Nat) (fun x=>sl 53 [(0,.i .i64 n),(1,.s s),(6,.h x.2 0 x.1),(7,.i .i64 x.1)]) (fun x=>upd noH x.2 (some (lcs n s x.1))) (fun x m=>x.1≤s.size∧x.2<m∧∀j,j<x.1→pl1 n (byt s j)≠none) (fun x=>s.size-x.1) ((0,_)) ?_ ?_ (le_one (upd_same _ _ _)) ?_
 ·exact⟨by simp only;omega,by first|omega|(simp only;omega)|(dsimp only;omega),by intro j hj;simp only at hj;omega⟩
 ·simp(disch:=omega) [wks,wkA,sl,w64,ints,rows,cubes,w64]<;>omega
 skip
 rintro⟨k,id⟩ m ⟨hk,hid,hd⟩
 simp only at hk hid hd ⊢
 have hb:=byt_le s k
 have hb':0≤((s.data.getD k 0).toNat:Int)∧((s.data.getD k 0).toNat:Int)≤255:=hb
 have g1:(k+1)*8≤140737488355328:=by omega
 have g2:k+1≤9223372036854775807:=by omega
 have hle:k≤(lcs n s k).length:=by rw[lcs_len];exact Nat.le_refl _
 have htk:List.take k (lcs n s k)=lcs n s k:=List.take_of_length_le (by rw[lcs_len];omega)
 refine AW.seq (fun N3 hN3=>?_);refine AW.sr envOk (fun N hN=>?_);simp-dsimp-implicitDefEqProofs (disch:=omega)only[go_sem];refine hN _ ?_;try clear hN N
 refine AW.cond rfl (fun h2=>?_) (fun h2=>?_)
 ·try simp only[cn]at h2
  have hk2:k<s.size:=by omega
  refine AW.skip ?_;simp only[thn,blk];refine hN3 _ ?_;try clear hN3 N3
  refine AW.seq (fun N4 hN4=>?_);refine AW.block ?_;refine AW.seq (fun N hN=>?_);refine AW.drawL envOk (by kernel_rfl) 14 (by kernel_rfl) ?_
  simp-dsimp-implicitDefEqProofs (disch:=omega)only[hr_nil,hr_one,hr_if,List.take_succ_cons,List.take_zero,List.drop_succ_cons,List.drop_zero,List.take_nil,List.drop_nil,go_sem,undef,w64];refine hN _ ?_;try clear hN N
  refine AW.block ?_;refine AW.sr envOk (fun N hN=>?_);simp-dsimp-implicitDefEqProofs (disch:=omega)only[go_sem];refine AC.pure (.of (spec_l01In_ok _ 1 n)) ?_;try simp-dsimp-implicitDefEqProofs (disch:=omega)only[go_sem]
  refine hN _ ?_;try clear hN N
  refine AW.cond rfl (fun h3=>?_) (fun h3=>?_)
  ·try simp only[cn]at h3
   have hl:=pl_a (b:=byt s k) ⟨h3.1,h3.2⟩
   refine AW.regionL envOk ?_;simp-dsimp-implicitDefEqProofs (disch:=omega)only[go_sem,htk,g1,g2,hle];refine hN4 _ ?_;try clear hN4 N4
   refine AW.regionL envOk ?_;simp-dsimp-implicitDefEqProofs (disch:=omega)only[go_sem];refine⟨(k+1,_),?_,by rw[lcs_s hl];exact le_one (upd_same _ _ _),?_,?_⟩
   ·simp(disch:=omega) [wks,wkA,sl,w64,ints,rows,cubes,w64]<;>omega
   ·exact⟨by simp only;omega,by first|omega|(simp only;omega)|(dsimp only;omega),pl_nx hd hl⟩
   first|omega|(simp only;omega)
  try simp only[cn]at h3
  refine AW.sr envOk (fun N hN=>?_);simp-dsimp-implicitDefEqProofs (disch:=omega)only[go_sem];refine AC.pure (.of (spec_l01In_ok _ 1 n)) ?_;try simp-dsimp-implicitDefEqProofs (disch:=omega)only[go_sem]
  refine hN _ ?_;try clear hN N
  refine AW.cond rfl (fun h4=>?_) (fun h4=>?_)
  ·try simp only[cn]at h4
   have hl:=(pl_b (b:=byt s k) h3 ⟨h4.1,h4.2⟩).trans (congrArg some (Int.zero_sub _).symm)
   refine AW.regionL envOk ?_;simp-dsimp-implicitDefEqProofs (disch:=omega)only[go_sem,htk,g1,g2,hle];refine hN4 _ ?_;try clear hN4 N4
   refine AW.regionL envOk ?_;simp-dsimp-implicitDefEqProofs (disch:=omega)only[go_sem];refine⟨(k+1,_),?_,by rw[lcs_s hl];exact le_one (upd_same _ _ _),?_,?_⟩
   ·simp(disch:=omega) [wks,wkA,sl,w64,ints,rows,cubes,w64]<;>omega
   ·exact⟨by simp only;omega,by first|omega|(simp only;omega)|(dsimp only;omega),pl_nx hd hl⟩
   first|omega|(simp only;omega)
  try simp only[cn]at h4
  refine AW.sr envOk (fun N hN=>?_);simp-dsimp-implicitDefEqProofs (disch:=omega)only[go_sem];refine hN _ ?_;try clear hN N
  refine AW.ret ?_;simp-dsimp-implicitDefEqProofs (disch:=omega)only[go_sem];rw[par_no h1 hk2 (pl_n (b:=byt s k) h3 h4)];exact vw_tb .nl
 try simp only[cn]at h2
 obtain rfl:k=s.size:=by omega
 refine AW.exit ?_;simp only[thn,blk,if_true];refine hN2 _ ?_;try clear hN2 N2
 refine AW.sr envOk (fun N hN=>?_);simp-dsimp-implicitDefEqProofs (disch:=omega)only[go_sem];refine hN _ ?_;try clear hN N
 refine AW.ret ?_;simp-dsimp-implicitDefEqProofs (disch:=omega)only[go_sem];rw[par_yes h1 hd];exact vw_tb (vw_hall (lcs_len _ _ _))
end Go.Proofs.YtghmeeifjeafmaaGreat
