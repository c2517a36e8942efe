import Derived.Test.YtlcddiojeghfgaaGreatDoorZ16
import Derived.Test.YtlcddiojeghfgaaGreatDoorZ18
import Derived.Test.YtlcddiojeghfgaaGreatDoorZ19
set_option linter.unusedVariables false
set_option linter.unusedSimpArgs false
namespace Go.Proofs.YtlcddiojeghfgaaGreatDoor
open Nat (reduceAdd reduceSub reduceGT reduceEqDiff reduceMul)
theorem ib (c:UInt8):∀l:List UInt8,(l.count c=0∧Lib.indexByte l c= -1)∨∃m:Nat,Lib.indexByte l c=m∧m<l.length∧l.count c=1+(l.drop (m+1)).count c:=by
  intro l
  induction l with
  |nil=>exact .inl ⟨rfl,rfl⟩
  | cons b l ih=>
    by_cases hb:b=c
    · subst hb
      exact .inr ⟨0,by simp[Lib.indexByte],by simp,by simp;omega⟩
    · have hne:(b==c)=false:=by simpa using hb
      have hc:(b::l).count c=l.count c:=List.count_cons_of_ne hb
      rcases ih with ⟨h1,h2⟩|⟨m,h1,h2,h3⟩
      · exact .inl ⟨by rw[hc,h1],by simp[Lib.indexByte,hne,h2]⟩
      · refine .inr ⟨m+1,?_,by simpa using h2,by rw[hc,h3];rfl⟩
        have:¬((m:Int)= -1):=by omega
        simp[Lib.indexByte,hne,h1,this]
def cnt (c:UInt8) (s:ByteArray):Nat:=s.data.toList.count c
def cutAt (c:UInt8) (s:ByteArray):Nat:=(Lib.indexByte s.data.toList c).toNat
def rst (c:UInt8):Nat→ByteArray→ByteArray
  |0,s=>s
  |k+1,s=>(rst c k s).extract (cutAt c (rst c k s)+1) (rst c k s).size
def pcs (c:UInt8):Nat→ByteArray→List ByteArray
  |0,_=>[]
  |k+1,s=>pcs c k s++[(rst c k s).extract 0 (cutAt c (rst c k s))]
def spw (c:UInt8) (s:ByteArray):List ByteArray:=pcs c (cnt c s) s++[rst c (cnt c s) s]
theorem pcs_len (c:UInt8) (s:ByteArray):∀k,(pcs c k s).length=k:=by
  intro k
  induction k with
  |zero=>rfl
  |succ k ih=>rw[pcs,List.length_append,ih];rfl
theorem ext_l (s:ByteArray) (a b:Nat):(s.extract a b).data.toList=(s.data.toList.drop a).take (b-a):=by
  rw[ByteArray.data_extract,Array.toList_extract]
theorem ext_sz (s:ByteArray) {a b:Nat} (h:b≤s.size):(s.extract a b).size=b-a:=by
  rw[ByteArray.size_extract];omega
theorem cut_pos {c:UInt8} {s:ByteArray} (h:0<cnt c s):Lib.indexByte s.data.toList c=(cutAt c s:Int)∧cutAt c s<s.size∧cnt c s=1+cnt c (s.extract (cutAt c s+1) s.size):=by
  rcases ib c s.data.toList with ⟨h1,_⟩|⟨m,h1,h2,h3⟩
  · unfold cnt at h;omega
  · have hm:cutAt c s=m:=by unfold cutAt;rw[h1];rfl
    rw[hm]
    have hsz:s.data.toList.length=s.size:=by rw[Array.length_toList];rfl
    refine⟨h1,by omega,?_⟩
    unfold cnt
    rw[ext_l,List.take_of_length_le (by rw[List.length_drop];omega)]
    exact h3
theorem rst_cnt (c:UInt8) (s:ByteArray):∀k,k≤cnt c s→cnt c (rst c k s)=cnt c s-k:=by
  intro k
  induction k with
  |zero=>intro _;rfl
  | succ k ih=>
    intro hk
    have h1:=ih (by omega)
    have h2:=(cut_pos (c:=c) (s:=rst c k s) (by omega)).2.2
    rw[rst];omega
theorem rst_sz (c:UInt8) (s:ByteArray):∀k,(rst c k s).size≤s.size:=by
  intro k
  induction k with
  |zero=>exact Nat.le_refl _
  |succ k ih=>rw[rst,ext_sz _ (Nat.le_refl _)];omega
theorem cnt_sz (c:UInt8) (s:ByteArray):cnt c s≤s.size:=by
  have:=List.count_le_length (a:=c) (l:=s.data.toList)
  have hsz:s.data.toList.length=s.size:=by rw[Array.length_toList];rfl
  unfold cnt;omega
theorem spw_len (c:UInt8) (s:ByteArray):(spw c s).length=cnt c s+1:=by
  unfold spw;rw[List.length_append,pcs_len];rfl
theorem vw_hall {H:HP} {id n:Nat} {cs:List AV} (hn:cs.length=n):Vw (upd H id (some cs)) (.h id 0 n) (.v n cs):=
  .h id 0 n cs cs (upd_same _ _ _) (by omega) hn fun k x y hx hy=>by rw[Nat.zero_add]at hx;rw[hx]at hy;cases hy;exact .refl _
theorem args3 {L:LM} {w:World} {M:Nat→Prop} {x y z:AV} {us:Array Value} (h:ArgsR L w M [x,y,z] us):∃u v t,us=#[u,v,t]∧R L w M x u∧R L w M y v∧R L w M z t:=by
  obtain⟨h1,h2⟩:=h
  obtain⟨l⟩:=us
  match l,h1 with
  |[u,v,t],_=>exact⟨u,v,t,rfl,h2 0 x rfl,h2 1 y rfl,h2 2 z rfl⟩
theorem strings_Index_b (s:ByteArray) (c:UInt8):ACp Tryz.prog 48 [.s s,.s ⟨#[c]⟩] (.i .i64 (Lib.indexByte s.data.toList c)):=by
  refine⟨⟨_,Tryz.func48,by kernel_rfl,by kernel_rfl⟩,fun L M w us hM hn ha=> ?_⟩
  obtain⟨u,v,rfl,h1,h2⟩:=args2 ha
  rw[h1.s_inv,h2.s_inv]
  exact(Tryz.strings_Index_one s c w).mono (by rintro e w' ⟨rfl,rfl⟩;exact⟨_,rfl,Step.refl _ _ _,.i _ _⟩)
theorem strings_Index_p {s:ByteArray} {c:UInt8} (h:0<cnt c s):ACp Tryz.prog 48 [.s s,.s ⟨#[c]⟩] (.i .i64 (cutAt c s)):=by
  have:=strings_Index_b s c
  rwa [(cut_pos h).1]at this
theorem strings_Count_b (s:ByteArray) (c:UInt8):ACp Tryz.prog 47 [.s s,.s ⟨#[c]⟩] (.i .i64 (cnt c s)):=by
  refine⟨⟨_,Tryz.func47,by kernel_rfl,by kernel_rfl⟩,fun L M w us hM hn ha=> ?_⟩
  obtain⟨u,v,rfl,h1,h2⟩:=args2 ha
  rw[h1.s_inv,h2.s_inv]
  exact(Tryz.strings_Count_one s c w).mono (by rintro e w' ⟨rfl,rfl⟩;exact⟨_,rfl,Step.refl _ _ _,.i _ _⟩)
theorem Step.of_bytes {L:LM} {w:World} {e:TypeId} {s:ByteArray}:Step L noH w L noH (Lib.bytesWorld w e s):=by
  unfold Lib.bytesWorld World.freeze
  rw[if_neg (by decide)]
  refine⟨fun _ _ h=>h,rfl,rfl,rfl,by simp,?_,fun _ _ h=>h⟩
  intro b hb _
  simp only[Array.getElem?_modify]
  rw[if_neg (by omega)]
  exact heap_alloc_lt w.drew _ hb
theorem strconv_ParseInt_o {s:ByteArray} {v:Int} (hs:s.size≤9223372036854775806) (h:Lib.parseIntB 64 s.data.toList= .ok v):ACp Tryz.prog 19 [.s s,.i .i64 10,.i .i64 64] (.t [.i .i64 v,.c .nilIface]):=by
  refine⟨⟨_,Tryz.func19,by kernel_rfl,by kernel_rfl⟩,fun L M w us hM hn ha=> ?_⟩
  obtain⟨u,v',t,rfl,h1,h2,h3⟩:=args3 ha
  rw[h1.s_inv,h2.i_inv,h3.i_inv]
  refine(Tryz.strconv_ParseInt_10_at64_ok s hs v h w).mono ?_
  have hr:∀w',R L w' M (.t [.i .i64 v,.c .nilIface]) (.tuple #[.int .i64 v,.nilIface]):=fun w'=> .t _ _ rfl fun k x hk=>by
    match k,hk with
    |0,hk=>cases hk;exact .i _ _
    |1,hk=>cases hk;exact .c _
  rintro e w' ⟨rfl,rfl|⟨t,rfl⟩⟩
  · exact⟨_,rfl,Step.refl _ _ _,hr _⟩
  · exact⟨_,rfl,Step.of_bytes,hr _⟩
theorem splice_pcs {xs:List ByteArray} {x:ByteArray} {n k:Nat} (h:xs.length=k) (hk:k<n):
    splice (xs.map AV.s++List.replicate (n-k) (.s ⟨#[]⟩)) k [.s x]=(xs++[x]).map AV.s++List.replicate (n-(k+1)) (.s ⟨#[]⟩):=by
  subst h
  rw[splice_one _ _ _ (by simp;omega),show n-xs.length=(n-(xs.length+1))+1 by omega,List.replicate_succ]
  have:=List.set_append_right (s:=xs.map AV.s) (t:=AV.s ⟨#[]⟩::List.replicate (n-(xs.length+1)) (.s ⟨#[]⟩)) xs.length (.s x) (by simp)
  rw[this]
  simp
theorem strings_genSplit_ok (s:ByteArray) (c:UInt8) (hs:s.size≤2097152):ACp Tryz.prog 34 [.s s,.s ⟨#[c]⟩,.i .i64 0,.i .i64 (-1)] (strs (spw c s)):=by
 have hcs:=cnt_sz c s
 have hmin:¬((s.size:Int)+1<(cnt c s:Int)+1):=by omega
 have e1:((cnt c s:Int)+1).toNat=cnt c s+1:=by omega
 have e2:#[c].size=1:=rfl
 refine ACp.introV envOk Tryz.func34 rfl (by kernel_rfl) Tryz.ntmps34 Tryz.results34 ((strs_nr _)) (fun nx cX=> ?_)
 refine AW.sr envOk (fun N hN=> ?_)
 simp-dsimp-implicitDefEqProofs (disch:=omega) only[go_sem,undef,w64]
 refine hN _ ?_
 try clear hN N
 refine AW.seq (fun N1 hN1=> ?_)
 refine AW.sr envOk (fun N hN=> ?_)
 simp-dsimp-implicitDefEqProofs (disch:=omega) only[go_sem,undef,w64]
 refine hN _ ?_
 try clear hN N
 refine AW.cond rfl (fun h1=> ?_) (fun h1=> ?_)
 ·try simp only[cn]at h1
  exact absurd h1 (by decide)
 ·try simp only[cn]at h1
  refine AW.skip ?_
  simp only[thn,blk]
  refine hN1 _ ?_
  try clear hN1 N1
  refine AW.seq (fun N2 hN2=> ?_)
  refine AW.sr envOk (fun N hN=> ?_)
  simp-dsimp-implicitDefEqProofs (disch:=omega) only[go_sem,undef,w64]
  refine hN _ ?_
  try clear hN N
  refine AW.cond rfl (fun h2=> ?_) (fun h2=> ?_)
  ·try simp only[cn]at h2
   rw[ByteArray.toList_eq,ByteArray.toList_eq]at h2;simp at h2
  ·try simp only[cn]at h2
   refine AW.skip ?_
   simp only[thn,blk]
   refine hN2 _ ?_
   try clear hN2 N2
   refine AW.seq (fun N3 hN3=> ?_)
   refine AW.sr envOk (fun N hN=> ?_)
   simp-dsimp-implicitDefEqProofs (disch:=omega) only[go_sem,undef,w64]
   refine hN _ ?_
   try clear hN N
   refine AW.cond rfl (fun h3=> ?_) (fun h3=> ?_)
   ·try simp only[cn]at h3
    refine AW.regionL envOk ?_
    simp-dsimp-implicitDefEqProofs (disch:=omega) only[go_sem,undef,w64]
    refine AC.pure (.of (strings_Count_b s c)) ?_
    try simp-dsimp-implicitDefEqProofs (disch:=omega) only[go_sem,undef,w64]
    refine hN3 _ ?_
    try clear hN3 N3
    refine AW.sr envOk (fun N hN=> ?_)
    simp-dsimp-implicitDefEqProofs (disch:=omega) only[go_sem,undef,w64,hmin,if_false]
    refine hN _ ?_
    try clear hN N
    refine AW.sr envOk (fun N hN=> ?_)
    simp-dsimp-implicitDefEqProofs (disch:=omega) only[go_sem,undef,w64,e1]
    refine hN _ ?_
    try clear hN N
    refine AW.sr envOk (fun N hN=> ?_)
    simp-dsimp-implicitDefEqProofs (disch:=omega) only[go_sem,undef,w64,Int.add_sub_cancel]
    refine hN _ ?_
    try clear hN N
    refine AW.sr envOk (fun N hN=> ?_)
    simp-dsimp-implicitDefEqProofs (disch:=omega) only[go_sem,undef,w64]
    refine hN _ ?_
    try clear hN N
    refine AW.seq (fun N4 hN4=> ?_)
    refine AW.block ?_
    refine AW.loopN (α:=Nat) (fun x=>sl 66 [(0,.s (rst c x s)),(1,.s ⟨#[c]⟩),(2,.i .i64 0),(3,.i .i64 (cnt c s)),(9,.h (nx+19) 0 (cnt c s+1)),(10,.i .i64 x)]) (fun x=>upd noH (nx+19) (some ((pcs c x s).map .s++List.replicate (cnt c s+1-x) (.s ⟨#[]⟩)))) (fun x m=>x≤cnt c s∧nx+19<m) (fun x=>cnt c s-x) (0) ?_ ?_ (by intro d cs hd;simp only[upd,noH,pcs,List.map_nil,List.nil_append]at hd ⊢;grind) ?_
    ·exact⟨by omega,by first|omega|(simp only;omega)|(dsimp only;omega)⟩
    ·simp(disch:=omega) [wks,wkA,sl,rst,e1]
    ·skip
     rintro k m ⟨hk,hm⟩
     have hpl:=pcs_len c s k
     have hrs:=rst_sz c s k
     have hrc:=rst_cnt c s k hk
     have hsp:=fun x=>splice_pcs (x:=x) (n:=cnt c s+1) hpl (by omega)
     refine AW.seq (fun N5 hN5=> ?_)
     refine AW.sr envOk (fun N hN=> ?_)
     simp-dsimp-implicitDefEqProofs (disch:=omega) only[go_sem,undef,w64]
     refine hN _ ?_
     try clear hN N
     refine AW.cond rfl (fun h4=> ?_) (fun h4=> ?_)
     ·try simp only[cn]at h4
      have hcp:=cut_pos (c:=c) (s:=rst c k s) (by omega)
      have hc2:=hcp.2.1
      have he:((cutAt c (rst c k s):Int)+1).toNat=cutAt c (rst c k s)+1:=by omega
      refine AW.skip ?_
      simp only[thn,blk]
      refine hN5 _ ?_
      try clear hN5 N5
      refine AW.block ?_
      refine AW.sr envOk (fun N hN=> ?_)
      simp-dsimp-implicitDefEqProofs (disch:=omega) only[go_sem,undef,w64]
      refine AC.pure (.of (strings_Index_p (by omega))) ?_
      try simp-dsimp-implicitDefEqProofs (disch:=omega) only[go_sem,undef,w64]
      refine hN _ ?_
      try clear hN N
      refine AW.seq (fun N6 hN6=> ?_)
      refine AW.sr envOk (fun N hN=> ?_)
      simp-dsimp-implicitDefEqProofs (disch:=omega) only[go_sem,undef,w64]
      refine hN _ ?_
      try clear hN N
      refine AW.cond rfl (fun h5=> ?_) (fun h5=> ?_)
      ·try simp only[cn]at h5
       exfalso;omega
      ·try simp only[cn]at h5
       refine AW.skip ?_
       simp only[thn,blk]
       refine hN6 _ ?_
       try clear hN6 N6
       refine AW.sr envOk (fun N hN=> ?_)
       simp-dsimp-implicitDefEqProofs (disch:=omega) only[go_sem,undef,w64,hpl,hsp,e2,Int.add_zero,Int.toNat_natCast]
       refine hN _ ?_
       try clear hN N
       refine AW.sr envOk (fun N hN=> ?_)
       simp-dsimp-implicitDefEqProofs (disch:=omega) only[go_sem,undef,w64,hpl,e2,he]
       refine hN _ ?_
       try clear hN N
       refine AW.regionL envOk ?_
       simp-dsimp-implicitDefEqProofs (disch:=omega) only[go_sem,undef,w64,hpl]
       refine⟨k+1,?_,fun _ _ h=>h,?_,?_⟩
       ·simp(disch:=omega) [wks,wkA,sl,rst]
       ·omega
       ·first|omega|(simp only;omega)
     ·try simp only[cn]at h4
      have hkc:k=cnt c s:=by omega
      subst hkc
      refine AW.exit ?_
      simp only[thn,blk,if_true]
      refine hN4 _ ?_
      try clear hN4 N4
      refine AW.sr envOk (fun N hN=> ?_)
      simp-dsimp-implicitDefEqProofs (disch:=omega) only[go_sem,undef,w64,hpl,hsp]
      refine hN _ ?_
      try clear hN N
      refine AW.sr envOk (fun N hN=> ?_)
      simp-dsimp-implicitDefEqProofs (disch:=omega) only[go_sem,undef,w64,hpl]
      refine hN _ ?_
      try clear hN N
      refine AW.ret ?_
      simp-dsimp-implicitDefEqProofs (disch:=omega) only[go_sem,undef]
      unfold strs
      rw[Nat.sub_self,List.replicate_zero,List.append_nil,spw_len]
      exact vw_hall (by simp[hpl])
   ·try simp only[cn]at h3
    simp at h3
theorem strings_Split_ok (s:ByteArray) (c:UInt8) (hs:s.size≤2097152):ACp Tryz.prog 18 [.s s,.s ⟨#[c]⟩] (strs (spw c s)):=by
 refine ACp.introV envOk Tryz.func18 rfl (by kernel_rfl) Tryz.ntmps18 Tryz.results18 ((strs_nr _)) (fun nx cX=> ?_)
 refine AW.sr envOk (fun N hN=> ?_)
 simp-dsimp-implicitDefEqProofs (disch:=omega) only[go_sem,undef,]
 refine hN _ ?_
 try clear hN N
 refine AW.sr envOk (fun N hN=> ?_)
 simp-dsimp-implicitDefEqProofs (disch:=omega) only[go_sem,undef,]
 refine AC.pure (.of (strings_genSplit_ok s c hs)) ?_
 try simp-dsimp-implicitDefEqProofs (disch:=omega) only[go_sem,undef,]
 refine hN _ ?_
 try clear hN N
 refine AW.ret ?_
 simp-dsimp-implicitDefEqProofs (disch:=omega) only[go_sem,undef]
 exact .refl _
theorem rst_step (c:UInt8) (s:ByteArray):∀k,rst c (k+1) s=rst c k (s.extract (cutAt c s+1) s.size):=by
  intro k
  induction k with
  |zero=>rfl
  |succ k ih=>rw[rst,ih,rst]
theorem pcs_step (c:UInt8) (s:ByteArray):∀k,pcs c (k+1) s=s.extract 0 (cutAt c s)::pcs c k (s.extract (cutAt c s+1) s.size):=by
  intro k
  induction k with
  |zero=>rfl
  |succ k ih=>rw[pcs,ih,rst_step,pcs];rfl
theorem spw_step {c:UInt8} {s:ByteArray} (h:0<cnt c s):spw c s=s.extract 0 (cutAt c s)::spw c (s.extract (cutAt c s+1) s.size):=by
  have h2:=(cut_pos h).2.2
  obtain⟨n,hn⟩:∃n,cnt c s=n+1:=⟨cnt c s-1,by omega⟩
  have h3:cnt c (s.extract (cutAt c s+1) s.size)=n:=by omega
  unfold spw
  rw[hn,h3,pcs_step,rst_step];rfl
theorem spw_zero {c:UInt8} {s:ByteArray} (h:cnt c s=0):spw c s=[s]:=by
  unfold spw;rw[h];rfl
theorem indexByte_app {c:UInt8} (ys:List UInt8):∀xs:List UInt8,xs.count c=0→Lib.indexByte (xs++c::ys) c=xs.length:=by
  intro xs
  induction xs with
  |nil=>intro _;simp[Lib.indexByte]
  | cons x xs ih=>
    intro h
    rw[List.count_cons]at h
    have hx:(x==c)=false:=by
      cases hq:x==c with
      |false=>rfl
      |true=>rw[hq]at h;simp at h
    have h1:=ih (by omega)
    have:¬((xs.length:Int)= -1):=by omega
    simp[Lib.indexByte,hx,h1,this]
def ofL (l:List UInt8):ByteArray:=⟨l.toArray⟩
theorem ofL_l (l:List UInt8):(ofL l).data.toList=l:=rfl
theorem ofL_to (s:ByteArray):ofL s.data.toList=s:=by cases s;simp[ofL]
theorem ofL_ext (l:List UInt8) (a b:Nat):(ofL l).extract a b=ofL ((l.drop a).take (b-a)):=by
  rw[←ofL_to ((ofL l).extract a b),ext_l];rfl
theorem ofL_sz (l:List UInt8):(ofL l).size=l.length:=by
  show l.toArray.size=l.length;simp
def jnc (c:UInt8):List (List UInt8)→List UInt8
  |[]=>[]
  |[x]=>x
  |x::y::xs=>x++c::jnc c (y::xs)
theorem spw_jnc (c:UInt8):∀ps:List (List UInt8),ps≠ []→(∀p,p∈ps→p.count c=0)→spw c (ofL (jnc c ps))=ps.map ofL:=by
  intro ps
  induction ps with
  |nil=>intro h;exact absurd rfl h
  | cons x xs ih=>
    intro _ hp
    have hx:=hp x (List.mem_cons_self ..)
    cases xs with
    |nil=>rw[jnc,spw_zero (by unfold cnt;rw[ofL_l];exact hx)];rfl
    | cons y xs=>
      have hi:=indexByte_app (c:=c) (jnc c (y::xs)) x hx
      have hc:cutAt c (ofL (jnc c (x::y::xs)))=x.length:=by
        unfold cutAt;rw[ofL_l,jnc,hi];rfl
      have hpos:0<cnt c (ofL (jnc c (x::y::xs))):=by
        unfold cnt;rw[ofL_l,jnc,List.count_append,List.count_cons];simp;omega
      rw[spw_step hpos,hc,ofL_ext,ofL_ext,ofL_sz,List.drop_zero,Nat.sub_zero,jnc,List.take_left,List.map_cons,←ih (by simp) (fun p h=>hp p (List.mem_cons_of_mem _ h))]
      congr 2
      rw[show x++c::jnc c (y::xs)=(x++[c])++jnc c (y::xs) by simp,show x.length+1=(x++[c]).length by simp,List.drop_left]
      congr 1
      exact List.take_of_length_le (by simp;omega)
theorem toL_eq {a b:List UInt8}:(ofL a).toList=(ofL b).toList↔a=b:=by
  rw[ByteArray.toList_eq,ByteArray.toList_eq];exact Iff.rfl
theorem strs_ofL (ps:List (List UInt8)) {k:Nat} (h:k<ps.length):((ps.map ofL).map AV.s).getD k .j= .s (ofL (ps.getD k [])):=by simp[h]
theorem bys_at {r:List UInt8} {k:Nat} (h:k<r.length):(bys (ofL r)).getD k .j= .i .u8 ((r.getD k 0).toNat:Int):=by
  rw[bys,ofL_l];simp[h]
theorem bys_ln (r:List UInt8):(bys (ofL r)).length=r.length:=by rw[bys_len,ofL_sz]
theorem le_one {H:HP} {id:Nat} {c:List AV} (h:H id=some c):∀i cs,upd noH id (some c) i=some cs→H i=some cs:=by
  intro i cs hd
  simp only[upd]at hd
  split at hd
  · rename_i e;subst e;rw[h];exact hd
  · cases hd
theorem itn1:Int.toNat 1=1:=rfl
theorem itn2:Int.toNat 2=2:=rfl
end Go.Proofs.YtlcddiojeghfgaaGreatDoor
