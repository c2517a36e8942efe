import Derived.Test.YtlcddiojeghfgaaGreatDoorZ20
set_option linter.unusedVariables false
set_option linter.unusedSimpArgs false
namespace Go.Proofs.YtlcddiojeghfgaaGreatDoor
open Nat (reduceAdd reduceSub reduceGT reduceEqDiff reduceMul)
def spL (c:UInt8):List UInt8→List (List UInt8)
  |[]=>[[]]
  | b::l=>if b=c then []::spL c l else match spL c l with
    |x::xs=>(b::x)::xs
    |[]=>[[b]]
theorem spL_ne (c:UInt8):∀l,spL c l≠ []:=by
  intro l
  cases l with
  |nil=>simp[spL]
  | cons b l=>
    rw[spL];split
    · simp
    · split<;>simp
theorem spL_zero {c:UInt8}:∀{l:List UInt8},l.count c=0→spL c l=[l]:=by
  intro l
  induction l with
  |nil=>intro _;rfl
  | cons b l ih=>
    intro h
    rw[List.count_cons]at h
    have hb:¬b=c:=by intro e;subst e;simp at h
    rw[spL,if_neg hb,ih (by omega)]
theorem spL_app {c:UInt8} (ys:List UInt8):∀{xs:List UInt8},xs.count c=0→spL c (xs++c::ys)=xs::spL c ys:=by
  intro xs
  induction xs with
  |nil=>intro _;rw[List.nil_append,spL,if_pos rfl]
  | cons b l ih=>
    intro h
    rw[List.count_cons]at h
    have hb:¬b=c:=by intro e;subst e;simp at h
    rw[List.cons_append,spL,if_neg hb,ih (by omega)]
theorem jnc_spL (c:UInt8):∀l,jnc c (spL c l)=l:=by
  intro l
  induction l with
  |nil=>rfl
  | cons b l ih=>
    rw[spL]
    split
    · rename_i h;subst h
      cases hs:spL b l with
      |nil=>exact absurd hs (spL_ne _ _)
      |cons x xs=>rw[hs]at ih;rw[jnc,ih];rfl
    · cases hs:spL c l with
      |nil=>exact absurd hs (spL_ne _ _)
      | cons x xs=>
        rw[hs]at ih
        simp only
        cases xs with
        |nil=>rw[jnc]at ih ⊢;rw[ih]
        |cons y ys=>rw[jnc]at ih ⊢;rw[List.cons_append,ih]
theorem spL_cnt (c:UInt8):∀l,∀p,p∈spL c l→p.count c=0:=by
  intro l
  induction l with
  |nil=>intro p hp;simp[spL]at hp;subst hp;rfl
  | cons b l ih=>
    intro p hp
    rw[spL]at hp
    split at hp
    · rcases List.mem_cons.1 hp with rfl|hp
      · rfl
      · exact ih p hp
    · rename_i hb
      cases hs:spL c l with
      |nil=>exact absurd hs (spL_ne _ _)
      | cons x xs=>
        rw[hs]at hp ih
        simp only at hp
        rcases List.mem_cons.1 hp with rfl|hp
        · rw[List.count_cons_of_ne hb];exact ih x (List.mem_cons_self ..)
        · exact ih p (List.mem_cons_of_mem _ hp)
theorem spw_L (c:UInt8) (l:List UInt8):spw c (ofL l)=(spL c l).map ofL:=by
  have h:=spw_jnc c (spL c l) (spL_ne c l) (spL_cnt c l)
  rwa [jnc_spL]at h
theorem ib_at {c:UInt8}:∀{l:List UInt8} {m:Nat},l[m]? =some c→(∀j,j<m→l[j]?≠some c)→Lib.indexByte l c=m:=by
  intro l
  induction l with
  |nil=>intro m h;simp at h
  | cons b l ih=>
    intro m h hn
    cases m with
    | zero=>
      simp only[List.getElem?_cons_zero,Option.some.injEq]at h
      subst h
      simp[Lib.indexByte]
    | succ m=>
      have hb:(b==c)=false:=by
        have:=hn 0 (by omega)
        simpa using this
      have h1:=ih (m:=m) (by simpa using h) (fun j hj=>by have:=hn (j+1) (by omega);simpa using this)
      have:¬((m:Int)= -1):=by omega
      simp[Lib.indexByte,hb,h1,this]
theorem cnt_none {c:UInt8}:∀{l:List UInt8},(∀j,j<l.length→l[j]?≠some c)→l.count c=0:=by
  intro l h
  rw[List.count_eq_zero]
  intro hm
  obtain⟨j,hj,e⟩:=List.mem_iff_getElem.1 hm
  exact h j hj (by rw[List.getElem?_eq_getElem hj,e])
def Scan (c:UInt8) (s:ByteArray) (i k f:Nat):Prop:=
  i≤s.size∧f≤i∧k≤cnt c s∧(rst c k s).data.toList=s.data.toList.drop f∧∀j,f≤j→j<i→s.data.toList[j]?≠some c
theorem szl (s:ByteArray):s.data.toList.length=s.size:=by rw[Array.length_toList];rfl
theorem toL_inj {a b:ByteArray} (h:a.data.toList=b.data.toList):a=b:=by
  rw[←ofL_to a,←ofL_to b,h]
theorem Scan.start (c:UInt8) (s:ByteArray):Scan c s 0 0 0:=⟨by omega,by omega,by omega,by simp[rst],by intro j _ h;omega⟩
theorem Scan.no {c:UInt8} {s:ByteArray} {i k f:Nat} (h:Scan c s i k f) (hi:i<s.size) (hb:s.data.toList[i]?≠some c):Scan c s (i+1) k f:=by
  obtain⟨h1,h2,h3,h4,h5⟩:=h
  refine⟨by omega,by omega,h3,h4,fun j hj hj2=> ?_⟩
  by_cases e:j=i
  · subst e;exact hb
  · exact h5 j hj (by omega)
theorem Scan.yes {c:UInt8} {s:ByteArray} {i k f:Nat} (h:Scan c s i k f) (hb:s.data.toList[i]? =some c):Scan c s (i+1) (k+1) (i+1)∧pcs c (k+1) s=pcs c k s++[s.extract f i]:=by
  obtain⟨h1,h2,h3,h4,h5⟩:=h
  have hlt:i<s.size:=by
    have:=(List.getElem?_eq_some_iff.1 hb).1;rw[szl]at this;exact this
  have hib:Lib.indexByte (rst c k s).data.toList c=((i-f:Nat):Int):=by
    rw[h4]
    refine ib_at (by rw[List.getElem?_drop,show f+(i-f)=i by omega];exact hb) (fun j hj=> ?_)
    rw[List.getElem?_drop];exact h5 _ (by omega) (by omega)
  have hcut:cutAt c (rst c k s)=i-f:=by unfold cutAt;rw[hib];rfl
  have hpos:0<cnt c (rst c k s):=by
    unfold cnt;rw[h4]
    exact List.count_pos_iff.2 (List.mem_of_getElem? (i:=i-f) (by rw[List.getElem?_drop,show f+(i-f)=i by omega];exact hb))
  have hrc:=rst_cnt c s k h3
  have hsz:(rst c k s).size=s.size-f:=by rw[←szl,h4,List.length_drop,szl]
  refine⟨⟨by omega,by omega,by omega,?_,by intro j hj hj2;omega⟩,?_⟩
  · rw[rst,ext_l,hcut,h4,hsz,List.drop_drop,List.take_of_length_le (by rw[List.length_drop,szl];omega)]
    congr 1;omega
  · rw[pcs,hcut]
    congr 2
    apply toL_inj
    rw[ext_l,ext_l,h4,List.drop_zero,Nat.sub_zero]
theorem Scan.done {c:UInt8} {s:ByteArray} {k f:Nat} (h:Scan c s s.size k f):k=cnt c s∧spw c s=pcs c k s++[s.extract f s.size]:=by
  obtain⟨h1,h2,h3,h4,h5⟩:=h
  have h0:cnt c (rst c k s)=0:=by
    unfold cnt;rw[h4]
    refine cnt_none (fun j hj=> ?_)
    rw[List.length_drop,szl]at hj
    rw[List.getElem?_drop];exact h5 _ (by omega) (by omega)
  have hrc:=rst_cnt c s k h3
  have hk:k=cnt c s:=by omega
  refine⟨hk,?_⟩
  unfold spw
  rw[←hk]
  congr 2
  apply toL_inj
  rw[h4,ext_l,List.take_of_length_le (by rw[List.length_drop,szl];omega)]
theorem byte_at {s:ByteArray} {i:Nat} {c:UInt8} (hi:i<s.size):(((s.data.getD i 0).toNat:Int)=(c.toNat:Int))↔s.data.toList[i]? =some c:=by
  have h:s.data.toList[i]? =some (s.data.getD i 0):=by
    rw[Array.getElem?_toList,Array.getD_eq_getD_getElem?]
    have:i<s.data.size:=hi
    rw[Array.getElem?_eq_getElem this];rfl
  rw[h,Option.some.injEq]
  constructor
  · intro e;exact UInt8.toNat_inj.1 (by omega)
  · intro e;rw[e]
set_option maxHeartbeats 2000000 in theorem spec_l01Split_ok (s:ByteArray) (c:UInt8) (hs:s.size≤2097152):ACp Tryz.prog 111 [.s s,.i .u8 c.toNat] (strs (spw c s)):=by
 refine ACp.introV envOk Tryz.func111 rfl (by kernel_rfl) Tryz.ntmps111 Tryz.results111 ((strs_nr _)) (fun nx cX=> ?_)
 refine AW.sr envOk (fun N hN=> ?_)
 simp-dsimp-implicitDefEqProofs (disch:=omega) only[go_sem,undef,w64]
 refine hN _ ?_
 try clear hN N
 refine AW.sr envOk (fun N hN=> ?_)
 simp-dsimp-implicitDefEqProofs (disch:=omega) only[go_sem,undef,w64]
 refine hN _ ?_
 try clear hN N
 refine AW.seq (fun N1 hN1=> ?_)
 refine AW.sr envOk (fun N hN=> ?_)
 simp-dsimp-implicitDefEqProofs (disch:=omega) only[go_sem,undef,w64]
 refine hN _ ?_
 try clear hN N
 refine AW.block ?_
 refine AW.loopN (α:=Nat×Nat×Nat×Nat) (fun x=>sl 35 [(0,.s s),(1,.i .u8 c.toNat),(5,.h x.2.2.2 0 x.2.1),(6,.i .i64 x.2.2.1),(7,.i .i64 x.1)]) (fun x=>upd noH x.2.2.2 (some ((pcs c x.2.1 s).map .s))) (fun x m=>Scan c s x.1 x.2.1 x.2.2.1∧x.2.2.2<m) (fun x=>s.size-x.1) ((0,0,0,nx+1+0)) ?_ ?_ (fun _ _ h=>h) ?_
 ·exact⟨Scan.start c s,by first|omega|(simp only;omega)|(dsimp only;omega)⟩
 ·simp(disch:=omega) [wks,wkA,sl,w64,ints,rows,cubes,w64]<;>omega
 ·skip
  rintro⟨i,k,f,id⟩ m ⟨hsc,hid⟩
  simp only at hsc hid ⊢
  have hpl:=pcs_len c s k
  have hi1:=hsc.1
  have hi2:=hsc.2.1
  have hk3:=hsc.2.2.1
  have hcs:=cnt_sz c s
  have g1:(k+1)*16≤140737488355328:=by omega
  have g2:k+1≤9223372036854775807:=by omega
  have htk:List.take k ((pcs c k s).map AV.s)=(pcs c k s).map .s:=List.take_of_length_le (by rw[List.length_map];omega)
  refine AW.seq (fun N2 hN2=> ?_)
  refine AW.sr envOk (fun N hN=> ?_)
  simp-dsimp-implicitDefEqProofs (disch:=omega) only[go_sem,undef,w64]
  refine hN _ ?_
  try clear hN N
  refine AW.cond rfl (fun h1=> ?_) (fun h1=> ?_)
  ·try simp only[cn]at h1
   refine AW.skip ?_
   simp only[thn,blk]
   refine hN2 _ ?_
   try clear hN2 N2
   refine AW.seq (fun N3 hN3=> ?_)
   refine AW.block ?_
   refine AW.sr envOk (fun N hN=> ?_)
   simp-dsimp-implicitDefEqProofs (disch:=omega) only[go_sem,undef,w64,Int.toNat_natCast]
   refine hN _ ?_
   try clear hN N
   refine AW.cond rfl (fun h2=> ?_) (fun h2=> ?_)
   ·try simp only[cn]at h2
    have hb:=(byte_at (by omega)).1 h2
    have hy:=hsc.yes hb
    refine AW.sr envOk (fun N hN=> ?_)
    simp-dsimp-implicitDefEqProofs (disch:=omega) only[go_sem,undef,w64,Int.toNat_natCast,htk,g1,g2]
    refine hN _ ?_
    try clear hN N
    refine AW.regionL envOk ?_
    simp-dsimp-implicitDefEqProofs (disch:=omega) only[go_sem,undef,w64]
    refine hN3 _ ?_
    try clear hN3 N3
    refine AW.regionL envOk ?_
    simp-dsimp-implicitDefEqProofs (disch:=omega) only[go_sem,undef,w64]
    refine⟨(i+1,k+1,i+1,_),?_,by rw[hy.2,List.map_append];exact le_one (upd_same _ _ _),?_,?_⟩
    ·simp(disch:=omega) [wks,wkA,sl,w64,ints,rows,cubes,w64]<;>omega
    ·exact⟨hy.1,by first|omega|(simp only;omega)|(dsimp only;omega)⟩
    ·first|omega|(simp only;omega)
   ·try simp only[cn]at h2
    have hb:=fun e=>h2 ((byte_at (c:=c) (by omega)).2 e)
    have hy:=hsc.no (by omega) hb
    refine AW.skip ?_
    simp only[thn,blk]
    refine hN3 _ ?_
    try clear hN3 N3
    refine AW.regionL envOk ?_
    simp-dsimp-implicitDefEqProofs (disch:=omega) only[go_sem,undef,w64]
    refine⟨(i+1,k,f,id),?_,fun _ _ h=>h,?_,?_⟩
    ·simp(disch:=omega) [wks,wkA,sl,w64,ints,rows,cubes,w64]<;>omega
    ·exact⟨hy,by first|omega|(simp only;omega)|(dsimp only;omega)⟩
    ·first|omega|(simp only;omega)
  ·try simp only[cn]at h1
   obtain rfl:i=s.size:=by omega
   have hd:=hsc.done
   refine AW.exit ?_
   simp only[thn,blk,if_true]
   refine hN1 _ ?_
   try clear hN1 N1
   refine AW.sr envOk (fun N hN=> ?_)
   simp-dsimp-implicitDefEqProofs (disch:=omega) only[go_sem,undef,w64,Int.toNat_natCast,htk,g1,g2]
   refine hN _ ?_
   try clear hN N
   refine AW.ret ?_
   simp-dsimp-implicitDefEqProofs (disch:=omega) only[go_sem,undef]
   unfold strs
   rw[spw_len,←hd.1,hd.2,List.map_append]
   exact vw_hall (by simp[hpl])
end Go.Proofs.YtlcddiojeghfgaaGreatDoor
