import Derived.Test.YthncdadmkppclaaGreatDoorZ23
import Derived.Test.YthncdadmkppclaaGreatDoorZ28
import Derived.Test.YthncdadmkppclaaGreatDoorZ29
set_option linter.unusedVariables false
set_option linter.unusedSimpArgs false
namespace Go.Proofs.YthncdadmkppclaaGreatDoor
open Nat (reduceAdd reduceSub reduceGT reduceEqDiff reduceMul)
theorem ib (c:UInt8):∀l:List UInt8,(l.count c=0∧Lib.indexByte l c= -1)∨∃m:Nat,Lib.indexByte l c=m∧m<l.length∧l.count c=1+(l.drop (m+1)).count c:=by
  intro l
  induction l with
  |nil=>exact .inl ⟨rfl,rfl⟩
  | cons b l ih=>
    by_cases hb:b=c
    · subst hb
      exact .inr ⟨0,by simp[Lib.indexByte],by simp,by simp;omega⟩
    · have hne:(b==c)=false:=by simpa using hb
      have hc:(b::l).count c=l.count c:=List.count_cons_of_ne hb
      rcases ih with ⟨h1,h2⟩|⟨m,h1,h2,h3⟩
      · exact .inl ⟨by rw[hc,h1],by simp[Lib.indexByte,hne,h2]⟩
      · refine .inr ⟨m+1,?_,by simpa using h2,by rw[hc,h3];rfl⟩
        have:¬((m:Int)= -1):=by omega
        simp[Lib.indexByte,hne,h1,this]
def cnt (c:UInt8) (s:ByteArray):Nat:=s.data.toList.count c
def cutAt (c:UInt8) (s:ByteArray):Nat:=(Lib.indexByte s.data.toList c).toNat
def rst (c:UInt8):Nat→ByteArray→ByteArray
  |0,s=>s
  |k+1,s=>(rst c k s).extract (cutAt c (rst c k s)+1) (rst c k s).size
def pcs (c:UInt8):Nat→ByteArray→List ByteArray
  |0,_=>[]
  |k+1,s=>pcs c k s++[(rst c k s).extract 0 (cutAt c (rst c k s))]
def spw (c:UInt8) (s:ByteArray):List ByteArray:=pcs c (cnt c s) s++[rst c (cnt c s) s]
theorem pcs_len (c:UInt8) (s:ByteArray):∀k,(pcs c k s).length=k:=by
  intro k
  induction k with
  |zero=>rfl
  |succ k ih=>rw[pcs,List.length_append,ih];rfl
theorem ext_l (s:ByteArray) (a b:Nat):(s.extract a b).data.toList=(s.data.toList.drop a).take (b-a):=by
  rw[ByteArray.data_extract,Array.toList_extract]
theorem ext_sz (s:ByteArray) {a b:Nat} (h:b≤s.size):(s.extract a b).size=b-a:=by
  rw[ByteArray.size_extract];omega
theorem cut_pos {c:UInt8} {s:ByteArray} (h:0<cnt c s):Lib.indexByte s.data.toList c=(cutAt c s:Int)∧cutAt c s<s.size∧cnt c s=1+cnt c (s.extract (cutAt c s+1) s.size):=by
  rcases ib c s.data.toList with ⟨h1,_⟩|⟨m,h1,h2,h3⟩
  · unfold cnt at h;omega
  · have hm:cutAt c s=m:=by unfold cutAt;rw[h1];rfl
    rw[hm]
    have hsz:s.data.toList.length=s.size:=by rw[Array.length_toList];rfl
    refine⟨h1,by omega,?_⟩
    unfold cnt
    rw[ext_l,List.take_of_length_le (by rw[List.length_drop];omega)]
    exact h3
theorem cut_zero {c:UInt8} {s:ByteArray} (h:cnt c s=0):Lib.indexByte s.data.toList c= -1:=by
  rcases ib c s.data.toList with ⟨_,h2⟩|⟨m,_,h2,h3⟩
  · exact h2
  · unfold cnt at h;omega
theorem rst_cnt (c:UInt8) (s:ByteArray):∀k,k≤cnt c s→cnt c (rst c k s)=cnt c s-k:=by
  intro k
  induction k with
  |zero=>intro _;rfl
  | succ k ih=>
    intro hk
    have h1:=ih (by omega)
    have h2:=(cut_pos (c:=c) (s:=rst c k s) (by omega)).2.2
    rw[rst];omega
theorem rst_sz (c:UInt8) (s:ByteArray):∀k,(rst c k s).size≤s.size:=by
  intro k
  induction k with
  |zero=>exact Nat.le_refl _
  |succ k ih=>rw[rst,ext_sz _ (Nat.le_refl _)];omega
theorem cnt_sz (c:UInt8) (s:ByteArray):cnt c s≤s.size:=by
  have:=List.count_le_length (a:=c) (l:=s.data.toList)
  have hsz:s.data.toList.length=s.size:=by rw[Array.length_toList];rfl
  unfold cnt;omega
theorem spw_len (c:UInt8) (s:ByteArray):(spw c s).length=cnt c s+1:=by
  unfold spw;rw[List.length_append,pcs_len];rfl
theorem vw_hall {H:HP} {id n:Nat} {cs:List AV} (hn:cs.length=n):Vw (upd H id (some cs)) (.h id 0 n) (.v n cs):=
  .h id 0 n cs cs (upd_same _ _ _) (by omega) hn fun k x y hx hy=>by rw[Nat.zero_add]at hx;rw[hx]at hy;cases hy;exact .refl _
theorem args3 {L:LM} {w:World} {M:Nat→Prop} {x y z:AV} {us:Array Value} (h:ArgsR L w M [x,y,z] us):∃u v t,us=#[u,v,t]∧R L w M x u∧R L w M y v∧R L w M z t:=by
  obtain⟨h1,h2⟩:=h
  obtain⟨l⟩:=us
  match l,h1 with
  |[u,v,t],_=>exact⟨u,v,t,rfl,h2 0 x rfl,h2 1 y rfl,h2 2 z rfl⟩
theorem strings_Index_b (s:ByteArray) (c:UInt8):ACp Tryz.prog 84 [.s s,.s ⟨#[c]⟩] (.i .i64 (Lib.indexByte s.data.toList c)):=by
  refine⟨⟨_,Tryz.func84,by kernel_rfl,by kernel_rfl⟩,fun L M w us hM hn ha=> ?_⟩
  obtain⟨u,v,rfl,h1,h2⟩:=args2 ha
  rw[h1.s_inv,h2.s_inv]
  exact(Tryz.strings_Index_one s c w).mono (by rintro e w' ⟨rfl,rfl⟩;exact⟨_,rfl,Step.refl _ _ _,.i _ _⟩)
theorem strings_Index_p {s:ByteArray} {c:UInt8} (h:0<cnt c s):ACp Tryz.prog 84 [.s s,.s ⟨#[c]⟩] (.i .i64 (cutAt c s)):=by
  have:=strings_Index_b s c
  rwa [(cut_pos h).1]at this
theorem strings_Count_b (s:ByteArray) (c:UInt8):ACp Tryz.prog 86 [.s s,.s ⟨#[c]⟩] (.i .i64 (cnt c s)):=by
  refine⟨⟨_,Tryz.func86,by kernel_rfl,by kernel_rfl⟩,fun L M w us hM hn ha=> ?_⟩
  obtain⟨u,v,rfl,h1,h2⟩:=args2 ha
  rw[h1.s_inv,h2.s_inv]
  exact(Tryz.strings_Count_one s c w).mono (by rintro e w' ⟨rfl,rfl⟩;exact⟨_,rfl,Step.refl _ _ _,.i _ _⟩)
theorem Step.of_bytes {L:LM} {w:World} {e:TypeId} {s:ByteArray}:Step L noH w L noH (Lib.bytesWorld w e s):=by
  unfold Lib.bytesWorld World.freeze
  rw[if_neg (by decide)]
  refine⟨fun _ _ h=>h,rfl,rfl,rfl,by simp,?_,fun _ _ h=>h⟩
  intro b hb _
  simp only[Array.getElem?_modify]
  rw[if_neg (by omega)]
  exact heap_alloc_lt w.drew _ hb
theorem strconv_ParseInt_o {s:ByteArray} {v:Int} (hs:s.size≤9223372036854775806) (h:Lib.parseIntB 64 s.data.toList= .ok v):ACp Tryz.prog 42 [.s s,.i .i64 10,.i .i64 64] (.t [.i .i64 v,.c .nilIface]):=by
  refine⟨⟨_,Tryz.func42,by kernel_rfl,by kernel_rfl⟩,fun L M w us hM hn ha=> ?_⟩
  obtain⟨u,v',t,rfl,h1,h2,h3⟩:=args3 ha
  rw[h1.s_inv,h2.i_inv,h3.i_inv]
  refine(Tryz.strconv_ParseInt_10_at64_ok s hs v h w).mono ?_
  have hr:∀w',R L w' M (.t [.i .i64 v,.c .nilIface]) (.tuple #[.int .i64 v,.nilIface]):=fun w'=> .t _ _ rfl fun k x hk=>by
    match k,hk with
    |0,hk=>cases hk;exact .i _ _
    |1,hk=>cases hk;exact .c _
  rintro e w' ⟨rfl,rfl|⟨t,rfl⟩⟩
  · exact⟨_,rfl,Step.refl _ _ _,hr _⟩
  · exact⟨_,rfl,Step.of_bytes,hr _⟩
theorem splice_pcs {xs:List ByteArray} {x:ByteArray} {n k:Nat} (h:xs.length=k) (hk:k<n):
    splice (xs.map AV.s++List.replicate (n-k) (.s ⟨#[]⟩)) k [.s x]=(xs++[x]).map AV.s++List.replicate (n-(k+1)) (.s ⟨#[]⟩):=by
  subst h
  rw[splice_one _ _ _ (by simp;omega),show n-xs.length=(n-(xs.length+1))+1 by omega,List.replicate_succ]
  have:=List.set_append_right (s:=xs.map AV.s) (t:=AV.s ⟨#[]⟩::List.replicate (n-(xs.length+1)) (.s ⟨#[]⟩)) xs.length (.s x) (by simp)
  rw[this]
  simp
theorem strings_genSplit_ok (s:ByteArray) (c:UInt8) (hs:s.size≤2097152):ACp Tryz.prog 65 [.s s,.s ⟨#[c]⟩,.i .i64 0,.i .i64 (-1)] (strs (spw c s)):=by
 have hcs:=cnt_sz c s
 have hmin:¬((s.size:Int)+1<(cnt c s:Int)+1):=by omega
 have e1:((cnt c s:Int)+1).toNat=cnt c s+1:=by omega
 have e2:#[c].size=1:=rfl
 refine ACp.introV envOk Tryz.func65 rfl (by kernel_rfl) Tryz.ntmps65 Tryz.results65 ((strs_nr _)) (fun nx cX=> ?_)
 refine AW.sr envOk (fun N hN=> ?_)
 simp-dsimp-implicitDefEqProofs (disch:=omega) only[go_sem,undef,w64]
 refine hN _ ?_
 try clear hN N
 refine AW.seq (fun N1 hN1=> ?_)
 refine AW.sr envOk (fun N hN=> ?_)
 simp-dsimp-implicitDefEqProofs (disch:=omega) only[go_sem,undef,w64]
 refine hN _ ?_
 try clear hN N
 refine AW.cond rfl (fun h1=> ?_) (fun h1=> ?_)
 ·try simp only[cn]at h1
  exact absurd h1 (by decide)
 ·try simp only[cn]at h1
  refine AW.skip ?_
  simp only[thn,blk]
  refine hN1 _ ?_
  try clear hN1 N1
  refine AW.seq (fun N2 hN2=> ?_)
  refine AW.sr envOk (fun N hN=> ?_)
  simp-dsimp-implicitDefEqProofs (disch:=omega) only[go_sem,undef,w64]
  refine hN _ ?_
  try clear hN N
  refine AW.cond rfl (fun h2=> ?_) (fun h2=> ?_)
  ·try simp only[cn]at h2
   rw[ByteArray.toList_eq,ByteArray.toList_eq]at h2;simp at h2
  ·try simp only[cn]at h2
   refine AW.skip ?_
   simp only[thn,blk]
   refine hN2 _ ?_
   try clear hN2 N2
   refine AW.seq (fun N3 hN3=> ?_)
   refine AW.sr envOk (fun N hN=> ?_)
   simp-dsimp-implicitDefEqProofs (disch:=omega) only[go_sem,undef,w64]
   refine hN _ ?_
   try clear hN N
   refine AW.cond rfl (fun h3=> ?_) (fun h3=> ?_)
   ·try simp only[cn]at h3
    refine AW.regionL envOk ?_
    simp-dsimp-implicitDefEqProofs (disch:=omega) only[go_sem,undef,w64]
    refine AC.pure (.of (strings_Count_b s c)) ?_
    try simp-dsimp-implicitDefEqProofs (disch:=omega) only[go_sem,undef,w64]
    refine hN3 _ ?_
    try clear hN3 N3
    refine AW.sr envOk (fun N hN=> ?_)
    simp-dsimp-implicitDefEqProofs (disch:=omega) only[go_sem,undef,w64,hmin,if_false]
    refine hN _ ?_
    try clear hN N
    refine AW.sr envOk (fun N hN=> ?_)
    simp-dsimp-implicitDefEqProofs (disch:=omega) only[go_sem,undef,w64,e1]
    refine hN _ ?_
    try clear hN N
    refine AW.sr envOk (fun N hN=> ?_)
    simp-dsimp-implicitDefEqProofs (disch:=omega) only[go_sem,undef,w64,Int.add_sub_cancel]
    refine hN _ ?_
    try clear hN N
    refine AW.sr envOk (fun N hN=> ?_)
    simp-dsimp-implicitDefEqProofs (disch:=omega) only[go_sem,undef,w64]
    refine hN _ ?_
    try clear hN N
    refine AW.seq (fun N4 hN4=> ?_)
    refine AW.block ?_
    refine AW.loopN (α:=Nat) (fun x=>sl 66 [(0,.s (rst c x s)),(1,.s ⟨#[c]⟩),(2,.i .i64 0),(3,.i .i64 (cnt c s)),(9,.h (nx+19) 0 (cnt c s+1)),(10,.i .i64 x)]) (fun x=>upd noH (nx+19) (some ((pcs c x s).map .s++List.replicate (cnt c s+1-x) (.s ⟨#[]⟩)))) (fun x m=>x≤cnt c s∧nx+19<m) (fun x=>cnt c s-x) (0) ?_ ?_ (by intro d cs hd;simp only[upd,noH,pcs,List.map_nil,List.nil_append]at hd ⊢;grind) ?_
    ·exact⟨by omega,by first|omega|(simp only;omega)|(dsimp only;omega)⟩
    ·simp(disch:=omega) [wks,wkA,sl,rst,e1]
    ·skip
     rintro k m ⟨hk,hm⟩
     have hpl:=pcs_len c s k
     have hrs:=rst_sz c s k
     have hrc:=rst_cnt c s k hk
     have hsp:=fun x=>splice_pcs (x:=x) (n:=cnt c s+1) hpl (by omega)
     refine AW.seq (fun N5 hN5=> ?_)
     refine AW.sr envOk (fun N hN=> ?_)
     simp-dsimp-implicitDefEqProofs (disch:=omega) only[go_sem,undef,w64]
     refine hN _ ?_
     try clear hN N
     refine AW.cond rfl (fun h4=> ?_) (fun h4=> ?_)
     ·try simp only[cn]at h4
      have hcp:=cut_pos (c:=c) (s:=rst c k s) (by omega)
      have hc2:=hcp.2.1
      have he:((cutAt c (rst c k s):Int)+1).toNat=cutAt c (rst c k s)+1:=by omega
      refine AW.skip ?_
      simp only[thn,blk]
      refine hN5 _ ?_
      try clear hN5 N5
      refine AW.block ?_
      refine AW.sr envOk (fun N hN=> ?_)
      simp-dsimp-implicitDefEqProofs (disch:=omega) only[go_sem,undef,w64]
      refine AC.pure (.of (strings_Index_p (by omega))) ?_
      try simp-dsimp-implicitDefEqProofs (disch:=omega) only[go_sem,undef,w64]
      refine hN _ ?_
      try clear hN N
      refine AW.seq (fun N6 hN6=> ?_)
      refine AW.sr envOk (fun N hN=> ?_)
      simp-dsimp-implicitDefEqProofs (disch:=omega) only[go_sem,undef,w64]
      refine hN _ ?_
      try clear hN N
      refine AW.cond rfl (fun h5=> ?_) (fun h5=> ?_)
      ·try simp only[cn]at h5
       exfalso;omega
      ·try simp only[cn]at h5
       refine AW.skip ?_
       simp only[thn,blk]
       refine hN6 _ ?_
       try clear hN6 N6
       refine AW.sr envOk (fun N hN=> ?_)
       simp-dsimp-implicitDefEqProofs (disch:=omega) only[go_sem,undef,w64,hpl,hsp,e2,Int.add_zero,Int.toNat_natCast]
       refine hN _ ?_
       try clear hN N
       refine AW.sr envOk (fun N hN=> ?_)
       simp-dsimp-implicitDefEqProofs (disch:=omega) only[go_sem,undef,w64,hpl,e2,he]
       refine hN _ ?_
       try clear hN N
       refine AW.regionL envOk ?_
       simp-dsimp-implicitDefEqProofs (disch:=omega) only[go_sem,undef,w64,hpl]
       refine⟨k+1,?_,fun _ _ h=>h,?_,?_⟩
       ·simp(disch:=omega) [wks,wkA,sl,rst]
       ·omega
       ·first|omega|(simp only;omega)
     ·try simp only[cn]at h4
      have hkc:k=cnt c s:=by omega
      subst hkc
      refine AW.exit ?_
      simp only[thn,blk,if_true]
      refine hN4 _ ?_
      try clear hN4 N4
      refine AW.sr envOk (fun N hN=> ?_)
      simp-dsimp-implicitDefEqProofs (disch:=omega) only[go_sem,undef,w64,hpl,hsp]
      refine hN _ ?_
      try clear hN N
      refine AW.sr envOk (fun N hN=> ?_)
      simp-dsimp-implicitDefEqProofs (disch:=omega) only[go_sem,undef,w64,hpl]
      refine hN _ ?_
      try clear hN N
      refine AW.ret ?_
      simp-dsimp-implicitDefEqProofs (disch:=omega) only[go_sem,undef]
      unfold strs
      rw[Nat.sub_self,List.replicate_zero,List.append_nil,spw_len]
      exact vw_hall (by simp[hpl])
   ·try simp only[cn]at h3
    simp at h3
theorem strings_Split_ok (s:ByteArray) (c:UInt8) (hs:s.size≤2097152):ACp Tryz.prog 41 [.s s,.s ⟨#[c]⟩] (strs (spw c s)):=by
 refine ACp.introV envOk Tryz.func41 rfl (by kernel_rfl) Tryz.ntmps41 Tryz.results41 ((strs_nr _)) (fun nx cX=> ?_)
 refine AW.sr envOk (fun N hN=> ?_)
 simp-dsimp-implicitDefEqProofs (disch:=omega) only[go_sem,undef,]
 refine hN _ ?_
 try clear hN N
 refine AW.sr envOk (fun N hN=> ?_)
 simp-dsimp-implicitDefEqProofs (disch:=omega) only[go_sem,undef,]
 refine AC.pure (.of (strings_genSplit_ok s c hs)) ?_
 try simp-dsimp-implicitDefEqProofs (disch:=omega) only[go_sem,undef,]
 refine hN _ ?_
 try clear hN N
 refine AW.ret ?_
 simp-dsimp-implicitDefEqProofs (disch:=omega) only[go_sem,undef]
 exact .refl _
theorem strings_splitSeq_fr (s:ByteArray) (c:UInt8) (nx:Nat) (H:HP):AC Tryz.prog 64 nx H [.s s,.s ⟨#[c]⟩,.i .i64 0] (fun nx' H' r=>∃bp bs bv:Nat,r= .f 82 [.q bp 0,.q bs 0,.q bv 0]∧nx≤bp∧bp<nx'∧nx≤bs∧bs<nx'∧nx≤bv∧bv<nx'∧bp≠bs∧bv≠bs∧bp≠bv∧H'=upd (upd (upd H bp (some [.s ⟨#[c]⟩])) bv (some [.i .i64 0])) bs (some [.s s])):=by
 refine AC.introx envOk Tryz.func64 rfl (by kernel_rfl) Tryz.ntmps64 Tryz.results64 (fun hfr cX=> ?_)
 refine AW.sr envOk (fun N hN=> ?_)
 simp-dsimp-implicitDefEqProofs (disch:=omega) only[go_sem,undef,]
 refine hN _ ?_
 try clear hN N
 refine AW.sr envOk (fun N hN=> ?_)
 simp-dsimp-implicitDefEqProofs (disch:=omega) only[go_sem,undef,]
 refine hN _ ?_
 try clear hN N
 refine AW.ret ?_
 simp-dsimp-implicitDefEqProofs (disch:=omega) only[go_sem,undef]
 refine⟨_,?_,nx+1,nx,nx+2,rfl,by omega,by omega,by omega,by omega,by omega,by omega,by omega,by omega,by omega,rfl⟩
 intro d cs hd
 simp only[upd]at hd ⊢
 grind
theorem strings_SplitSeq_fr (s:ByteArray) (c:UInt8) (nx:Nat) (H:HP):AC Tryz.prog 40 nx H [.s s,.s ⟨#[c]⟩] (fun nx' H' r=>∃bp bs bv:Nat,r= .f 82 [.q bp 0,.q bs 0,.q bv 0]∧nx≤bp∧bp<nx'∧nx≤bs∧bs<nx'∧nx≤bv∧bv<nx'∧bp≠bs∧bv≠bs∧bp≠bv∧H'=upd (upd (upd H bp (some [.s ⟨#[c]⟩])) bv (some [.i .i64 0])) bs (some [.s s])):=by
 refine AC.introx envOk Tryz.func40 rfl (by kernel_rfl) Tryz.ntmps40 Tryz.results40 (fun hfr cX=> ?_)
 refine AW.sr envOk (fun N hN=> ?_)
 simp-dsimp-implicitDefEqProofs (disch:=omega) only[go_sem,undef,]
 refine hN _ ?_
 try clear hN N
 refine AW.sr envOk (fun N hN=> ?_)
 simp-dsimp-implicitDefEqProofs (disch:=omega) only[go_sem,undef,]
 refine(strings_splitSeq_fr s c _ _).mono ?_
 rintro nx1 H1 r ⟨bp,bs,bv,rfl,h1,h2,h3,h4,h5,h6,h7,h8,h9,rfl⟩
 try simp-dsimp-implicitDefEqProofs (disch:=omega) only[go_sem,undef,]
 refine hN _ ?_
 try clear hN N
 refine AW.ret ?_
 simp-dsimp-implicitDefEqProofs (disch:=omega) only[go_sem,undef]
 exact⟨_,fun _ _ h=>h,bp,bs,bv,rfl,by omega,by omega,by omega,by omega,by omega,by omega,by omega,by omega,by omega,rfl⟩
theorem wks_refl:∀xs:List AV,wks xs xs
  |[]=>trivial
  |x::xs=>⟨.inr (.inl rfl),wks_refl xs⟩
theorem spw_get {c:UInt8} {s:ByteArray} {k:Nat} (h:k<cnt c s):(spw c s)[k]? =some ((rst c k s).extract 0 (cutAt c (rst c k s))):=by
  have:∀n,k<n→(pcs c n s)[k]? =some ((rst c k s).extract 0 (cutAt c (rst c k s))):=by
    intro n
    induction n with
    |zero=>intro h;omega
    | succ n ih=>
      intro hk
      rw[pcs]
      by_cases hkn:k<n
      · rw[List.getElem?_append_left (by rw[pcs_len];exact hkn)];exact ih hkn
      · have:k=n:=by omega
        subst this
        rw[List.getElem?_append_right (by rw[pcs_len];omega),pcs_len,Nat.sub_self];rfl
  unfold spw
  rw[List.getElem?_append_left (by rw[pcs_len];exact h)]
  exact this _ h
theorem spw_last (c:UInt8) (s:ByteArray):(spw c s)[cnt c s]? =some (rst c (cnt c s) s):=by
  unfold spw
  rw[List.getElem?_append_right (by rw[pcs_len];omega),pcs_len,Nat.sub_self];rfl
theorem it_split {σ:Type} {cY:Ctx} {fn:Func} {cd:Code} (hf:Tryz.prog.funcs[82]? =some fn) (hb:fn.body=some cd) {l:Nat} {rec:Loop} {tA:List AV} {p:Nat} (bg:LoopBG cY l rec tA) (hps:rec.params=#[p])
 (c:UInt8) (s:ByteArray) (hs:s.size≤2097152) (G:σ→HP) (Inv:Nat→σ→Nat→Prop) {bp bs bv nx n:Nat} (hn:n=48) (hmono:∀k j m m',Inv k j m→m≤m'→Inv k j m') (hp:bp≠bs) (hv:bv≠bs)
 (hG:∀k j m,Inv k j m→G j bp=some [.s ⟨#[c]⟩]∧G j bv=some [.i .i64 0])
 (rnd:∀k j m x,(spw c s)[k]? =some x→Inv k j m→∀r,Rnd Tryz.prog rec tA p (.s x) (upd (G j) bs (some [.s r])) m fun H m'=>∃j',Inv (k+1) j' m'∧∀i cs,upd (G j') bs (some [.s r]) i=some cs→H i=some cs)
 {j0:σ} (h0:Inv 0 j0 nx) {K:Nat→HP→Prop} (hK:∀j m r H,Inv (cnt c s+1) j m→(∀i cs,upd (G j) bs (some [.s r]) i=some cs→H i=some cs)→K m H):
 AW cY Tryz.prog cd ⟨.c (.func (.yield l) #[] #[])::([.q bp 0,.q bs 0,.q bv 0]++List.replicate n .j),upd (G j0) bs (some [.s s]),nx⟩ (finK env fn.results.toList fun nx' H' _=>K nx' H'):=by
 have hcs:=cnt_sz c s
 have hg0:=hG _ _ _ h0
 have hg1:=hg0.1
 have hg2:=hg0.2
 subst hn
 obtain rfl:_=fn:=Option.some.inj (Tryz.func82.symm.trans hf)
 cases hb
 simp only[List.replicate,List.cons_append,List.nil_append]
 refine AW.seq (fun N1 hN1=> ?_)
 refine AW.sr envOk (fun N hN=> ?_)
 simp-dsimp-implicitDefEqProofs (disch:=omega) only[go_sem,undef,w64,upd_ne,hg1,hg2]
 refine hN _ ?_
 try clear hN N
 refine AW.cond rfl (fun h1=> ?_) (fun h1=> ?_)
 ·try simp only[cn]at h1
  simp at h1
 ·try simp only[cn]at h1
  refine AW.skip ?_
  simp only[thn,blk]
  refine hN1 _ ?_
  try clear hN1 N1
  refine AW.seq (fun N2 hN2=> ?_)
  refine AW.block ?_
  refine AW.loopN (α:=Nat×σ) (fun x=>sl 52 [(0,.c (.func (.yield l) #[] #[])),(1,.q bp 0),(2,.q bs 0),(3,.q bv 0)]) (fun x=>upd (G x.2) bs (some [.s (rst c x.1 s)])) (fun x m=>x.1≤cnt c s∧Inv x.1 x.2 m) (fun x=>cnt c s-x.1) ((0,j0)) ?_ ?_ (fun _ _ h=>h) ?_
  ·exact⟨Nat.zero_le _,hmono _ _ _ _ h0 (by first|omega|(simp only;omega)|(dsimp only;omega))⟩
  ·simp(disch:=omega) [wks,wkA,sl,w64,ints,rows,cubes,w64]<;>omega
  ·skip
   rintro⟨k,j⟩ m ⟨hk,hI⟩
   simp only at hk hI ⊢
   have hgk:=hG _ _ _ hI
   have hk1:=hgk.1
   have hk2:=hgk.2
   have hrs:=rst_sz c s k
   have hrc:=rst_cnt c s k hk
   refine AW.block ?_
   refine AW.sr envOk (fun N hN=> ?_)
   simp-dsimp-implicitDefEqProofs (disch:=omega) only[go_sem,undef,w64,upd_ne,hk1,hk2]
   refine AC.pure (.of (strings_Index_b (rst c k s) c)) ?_
   try simp-dsimp-implicitDefEqProofs (disch:=omega) only[go_sem,undef,w64]
   refine hN _ ?_
   try clear hN N
   refine AW.seq (fun N3 hN3=> ?_)
   refine AW.sr envOk (fun N hN=> ?_)
   simp-dsimp-implicitDefEqProofs (disch:=omega) only[go_sem,undef,w64,upd_ne,hk1,hk2]
   refine hN _ ?_
   try clear hN N
   refine AW.cond rfl (fun h2=> ?_) (fun h2=> ?_)
   ·try simp only[cn]at h2
    have hkc:k=cnt c s:=by
     apply Classical.byContradiction
     intro hne
     have hcp:=cut_pos (c:=c) (s:=rst c k s) (by omega)
     have hcp1:=hcp.1
     omega
    refine AW.exit ?_
    simp only[thn,blk,if_true]
    refine hN2 _ ?_
    try clear hN2 N2
    subst hkc
    refine AW.regionX envOk 2 _ rfl rfl ?_
    simp-dsimp-implicitDefEqProofs (disch:=omega) only[go_sem,undef,List.take_succ_cons,List.take_zero,List.drop_succ_cons,List.drop_zero,upd_ne,hk1,hk2]
    refine XC.rnd bg (by omega) rfl rfl hps ?_
    refine(rnd _ j _ _ (spw_last c s) (hmono _ _ _ _ hI (by first|omega|(simp only;omega)|(dsimp only;omega))) _).mono ?_
    rintro H1 m1 ⟨j1,hI1,hle⟩
    simp-dsimp-implicitDefEqProofs (disch:=omega) only[go_sem,undef]
    exact hK _ _ _ _ hI1 hle
   ·try simp only[cn]at h2
    have hc0:0<cnt c (rst c k s):=by
     apply Classical.byContradiction
     intro hne
     have hcp1:=cut_zero (c:=c) (s:=rst c k s) (by omega)
     omega
    have hcp:=cut_pos hc0
    have hcp1:=hcp.1
    have hcp2:=hcp.2.1
    refine AW.skip ?_
    simp only[thn,blk]
    refine hN3 _ ?_
    try clear hN3 N3
    refine AW.sr envOk (fun N hN=> ?_)
    simp-dsimp-implicitDefEqProofs (disch:=omega) only[go_sem,undef,w64,upd_ne,hk1,hk2,hcp1,Int.add_zero]
    refine hN _ ?_
    try clear hN N
    refine AW.seq (fun N4 hN4=> ?_)
    refine AW.seq (fun N hN=> ?_)
    refine AW.regionX envOk 2 _ rfl rfl ?_
    simp-dsimp-implicitDefEqProofs (disch:=omega) only[go_sem,undef,List.take_succ_cons,List.take_zero,List.drop_succ_cons,List.drop_zero,upd_ne,hk1,hk2]
    refine XC.rnd bg (by omega) rfl rfl hps ?_
    refine(rnd _ j _ _ (spw_get (by omega)) (hmono _ _ _ _ hI (by first|omega|(simp only;omega)|(dsimp only;omega))) _).mono ?_
    rintro H1 m1 ⟨j1,hI1,hle⟩
    simp-dsimp-implicitDefEqProofs (disch:=omega) only[go_sem,undef]
    refine hN _ ?_
    try clear hN N
    refine AW.condF rfl ?_
    refine AW.skip ?_
    simp only[thn,blk]
    refine hN4 _ ?_
    try clear hN4 N4
    have hI2:=hG _ _ _ hI1
    have hi1:=hI2.1
    have hi2:=hI2.2
    refine AW.wk (s':=⟨_,upd (G j1) bs (some [.s (rst c k s)]),_⟩) ⟨wks_refl _,hle,Nat.le_refl _⟩ ?_
    refine AW.regionL envOk ?_
    simp-dsimp-implicitDefEqProofs (disch:=omega) only[go_sem,undef,w64,upd_ne,hi1,hi2,upd_upd,show #[c].size=1 from rfl,show((cutAt c (rst c k s):Int)+1).toNat=cutAt c (rst c k s)+1 by omega]
    refine⟨(k+1,j1),?_,fun _ _ h=>h,?_,?_⟩
    ·simp(disch:=omega) [wks,wkA,sl,rst]
    ·exact⟨by simp only;omega,hmono _ _ _ _ hI1 (by first|omega|(simp only;omega)|(dsimp only;omega))⟩
    ·first|omega|(simp only;omega)
end Go.Proofs.YthncdadmkppclaaGreatDoor
