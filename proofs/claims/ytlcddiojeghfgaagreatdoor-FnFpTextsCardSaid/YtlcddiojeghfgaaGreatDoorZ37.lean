import Derived.Test.YtlcddiojeghfgaaGreatDoorZ13
set_option linter.unusedVariables false
set_option linter.unusedSimpArgs false
namespace Go.Proofs.YtlcddiojeghfgaaGreatDoor
open Nat (reduceAdd reduceSub reduceGT reduceEqDiff reduceMul)
def byts (bs:List Int):AV:= .v bs.length (bs.map (.i .u8))
def u8ok (n:Int):Prop:=0≤n∧n≤255
def bytsok (bs:List Int):Prop:=bs.length≤9223372036854775807∧∀n∈bs,u8ok n
section
variable {T:Type} {enc:TypeId×Value→T} {P:Program} {w:World} {sp:Nat→Bool} {held:Bool}
theorem rd_u8 {t:TypeId} {fuel:Nat} {v:Value} {x:DataW T×List MemPlace} (ht:P.underlying t=some (.int .u8)) (h:DataW.trod enc P w 0 sp held fuel t [v]=some x):∃n:Int,R noL w noM (.i .u8 n) v∧u8ok n:=by
  cases fuel with
  |zero=>cases h
  | succ fuel=>
    obtain⟨n,h1,_,h2⟩:=DataW.trod_int ht h
    simp only[List.cons.injEq,and_true]at h1
    subst h1
    refine⟨n,.i _ _,?_⟩
    simpa[u8ok,Lit.wf,IntKind.min,IntKind.max,IntKind.signed,IntKind.bits]using h2
theorem rd_bytes {t e:TypeId} {fuel:Nat} {v:Value} {x:DataW T×List MemPlace} (ht:P.underlying t=some (.slice e)) (he:P.underlying e=some (.int .u8)) (hc:P.cellsOf e=1) (h:DataW.trod enc P w 0 sp held fuel t [v]=some x):
    ∃xs:List Int,R noL w noM (byts xs) v∧bytsok xs:=by
  obtain⟨xs,h1,h2,h3⟩:=rd_slice (f:=AV.i .u8) (ok:=u8ok) ht hc (fun n u y hy=>rd_u8 he hy) h
  exact⟨xs,h1,by simpa[maxLen]using h2,h3⟩
end
theorem gd_u8 {bs:List Int} {k:Nat} (h:k<bs.length):(bs.map (AV.i .u8)).getD k .j= .i .u8 (bs.getD k 0):=by simp[h]
theorem bytsok.get {bs:List Int} (h:bytsok bs) {k:Nat} (hk:k<bs.length):0≤bs.getD k 0∧bs.getD k 0≤255:=by
  rw[List.getD_eq_getElem?_getD,List.getElem?_eq_getElem hk]
  exact h.2 _ (List.getElem_mem hk)
def srB (bs:List Int) (a s:Int):List AV:=[byts bs,.i .i64 a,.i .i64 s]
structure srOk (bs:List Int) (a s:Int):Prop where
  n:bs.length≤4096
  v:∀k,k<bs.length→0≤bs.getD k 0∧bs.getD k 0≤255
  a0:0≤a
  a1:a≤bs.length
  s0:0≤s
  s1:s<2147483647
def nxtK (bs:List Int) (sid:Nat) (n:Int) (H:HP):Nat→HP→AV→Prop:=fun _ H' r=>∃x a' s',r= .i .i64 x∧(0≤x∧(x<n∨x=0))∧srOk bs a' s'∧H'=upd H sid (some (srB bs a' s'))
theorem upd_id {H:HP} {i:Nat} {c:List AV} (h:H i=some c):upd H i (some c)=H:=by
  funext j
  by_cases e:j=i
  · subst e;rw[upd_same,h]
  · rw[upd_ne _ _ e]
theorem nxt_fin {x n:Int} (h:0≤x) (hn:1<n):0≤x.tmod n∧(x.tmod n<n∨x.tmod n=0):=by
  rw[Int.tmod_eq_emod_of_nonneg h]
  exact⟨Int.emod_nonneg _ (by omega),.inl (Int.emod_lt_of_pos _ (by omega))⟩
theorem spec_l01Next_o (bs:List Int) (a s:Int) (ho:srOk bs a s) (n:Int) (hn:n≤1000000000) (nx:Nat) (H:HP) (sid:Nat) (hH:H sid=some (srB bs a s)):AC Tryz.prog 23 nx H [.q sid 0,.i .i64 n] (nxtK bs sid n H):=by
 obtain⟨o1,o2,o3,o4,o5,o6⟩:=id ho
 have hH2:=hH
 unfold srB byts at hH2
 refine AC.introx envOk Tryz.func23 rfl (by kernel_rfl) Tryz.ntmps23 Tryz.results23 (fun hfr cX=> ?_)
 refine AW.sr envOk (fun N hN=> ?_)
 simp-dsimp-implicitDefEqProofs (disch:=omega) only[go_sem,undef,w64,hH2]
 refine hN _ ?_
 try clear hN N
 refine AW.seq (fun N1 hN1=> ?_)
 refine AW.sr envOk (fun N hN=> ?_)
 simp-dsimp-implicitDefEqProofs (disch:=omega) only[go_sem,undef,w64,hH2]
 refine hN _ ?_
 try clear hN N
 refine AW.cond rfl (fun h1=> ?_) (fun h1=> ?_)
 ·try simp only[cn]at h1
  refine AW.sr envOk (fun N hN=> ?_)
  simp-dsimp-implicitDefEqProofs (disch:=omega) only[go_sem,undef,w64,hH2]
  refine hN _ ?_
  try clear hN N
  refine AW.ret ?_
  simp-dsimp-implicitDefEqProofs (disch:=omega) only[go_sem,undef]
  exact⟨_,fun _ _ h=>h,0,a,s,rfl,⟨by omega,.inr rfl⟩,ho,(upd_id hH).symm⟩
 ·try simp only[cn]at h1
  refine AW.skip ?_
  simp only[thn,blk]
  refine hN1 _ ?_
  try clear hN1 N1
  refine AW.sr envOk (fun N hN=> ?_)
  simp-dsimp-implicitDefEqProofs (disch:=omega) only[go_sem,undef,w64,hH2]
  refine hN _ ?_
  try clear hN N
  have hsr:0≤(s*48271+71).tmod 2147483647∧(s*48271+71).tmod 2147483647<2147483647:=by
   rw[Int.tmod_eq_emod_of_nonneg (by omega)]
   omega
  obtain⟨s2,hs2⟩:∃s2,(s*48271+71).tmod 2147483647=s2:=⟨_,rfl⟩
  rw[hs2]at hsr ⊢
  have hdr:0≤s2.tdiv 47∧s2.tdiv 47≤2147483647:=by
   rw[Int.tdiv_eq_ediv_of_nonneg hsr.1]
   omega
  refine AW.sr envOk (fun N hN=> ?_)
  simp-dsimp-implicitDefEqProofs (disch:=omega) only[go_sem,undef,w64,hH2]
  refine hN _ ?_
  try clear hN N
  refine AW.seq (fun N2 hN2=> ?_)
  obtain⟨x0,hx0⟩:∃x0,s2.tdiv 47=x0:=⟨_,rfl⟩
  rw[hx0]at hdr ⊢
  refine AW.seq (fun N hN=> ?_)
  refine AW.drawL envOk (by kernel_rfl) 10 (by kernel_rfl) ?_
  simp-dsimp-implicitDefEqProofs (disch:=omega) only[hr_nil,hr_one,hr_if,List.take_succ_cons,List.take_zero,List.drop_succ_cons,List.drop_zero,List.take_nil,List.drop_nil,go_sem,undef,w64,hH2]
  refine hN _ ?_
  try clear hN N
  refine AW.cond rfl (fun h2=> ?_) (fun h2=> ?_)
  ·try simp only[cn]at h2
   have hb:=o2 a.toNat (by omega)
   refine AW.seq (fun N hN=> ?_)
   refine AW.drawL envOk (by kernel_rfl) 14 (by kernel_rfl) ?_
   simp-dsimp-implicitDefEqProofs (disch:=omega) only[hr_nil,hr_one,hr_if,List.take_succ_cons,List.take_zero,List.drop_succ_cons,List.drop_zero,List.take_nil,List.drop_nil,go_sem,undef,w64,hH2,gd_u8]
   refine hN _ ?_
   try clear hN N
   refine AW.sr envOk (fun N hN=> ?_)
   simp-dsimp-implicitDefEqProofs (disch:=omega) only[go_sem,undef,w64,hH2]
   refine hN _ ?_
   try clear hN N
   refine AW.sr envOk (fun N hN=> ?_)
   simp-dsimp-implicitDefEqProofs (disch:=omega) only[go_sem,undef,w64,hH2]
   refine gopB.mk' (fun h3=> ?_) (fun h3=> ?_)
   ·try simp only[cn]at h3
    have hab:(a+1-1).toNat=a.toNat:=by omega
    try simp-dsimp-implicitDefEqProofs (disch:=omega) only[go_sem,undef,w64,hH2]
    refine hN _ ?_
    try clear hN N
    refine AW.cond rfl (fun h4=> ?_) (fun h4=> ?_)
    ·try simp only[cn]at h4
     refine AW.drawL envOk (by kernel_rfl) 13 (by kernel_rfl) ?_
     simp-dsimp-implicitDefEqProofs (disch:=omega) only[hr_nil,hr_one,hr_if,List.take_succ_cons,List.take_zero,List.drop_succ_cons,List.drop_zero,List.take_nil,List.drop_nil,go_sem,undef,w64,hH2,gd_u8,hab]
     refine hN2 _ ?_
     try clear hN2 N2
     refine AW.sr envOk (fun N hN=> ?_)
     simp-dsimp-implicitDefEqProofs (disch:=omega) only[go_sem,undef,w64,hH2]
     refine hN _ ?_
     try clear hN N
     refine AW.ret ?_
     simp-dsimp-implicitDefEqProofs (disch:=omega) only[go_sem,undef]
     exact⟨_,fun _ _ h=>h,_,a+1,s2,rfl,nxt_fin (by omega) (by omega),⟨o1,o2,by omega,by omega,by omega,by omega⟩,rfl⟩
    ·try simp only[cn]at h4
     refine AW.skip ?_
     simp only[thn,blk]
     refine hN2 _ ?_
     try clear hN2 N2
     refine AW.sr envOk (fun N hN=> ?_)
     simp-dsimp-implicitDefEqProofs (disch:=omega) only[go_sem,undef,w64,hH2]
     refine hN _ ?_
     try clear hN N
     refine AW.ret ?_
     simp-dsimp-implicitDefEqProofs (disch:=omega) only[go_sem,undef]
     exact⟨_,fun _ _ h=>h,_,a+1,s2,rfl,nxt_fin (by omega) (by omega),⟨o1,o2,by omega,by omega,by omega,by omega⟩,rfl⟩
   ·try simp only[cn]at h3
    try simp-dsimp-implicitDefEqProofs (disch:=omega) only[go_sem,undef,w64,hH2]
    refine hN _ ?_
    try clear hN N
    refine AW.condF rfl ?_
    refine AW.skip ?_
    simp only[thn,blk]
    refine hN2 _ ?_
    try clear hN2 N2
    refine AW.sr envOk (fun N hN=> ?_)
    simp-dsimp-implicitDefEqProofs (disch:=omega) only[go_sem,undef,w64,hH2]
    refine hN _ ?_
    try clear hN N
    refine AW.ret ?_
    simp-dsimp-implicitDefEqProofs (disch:=omega) only[go_sem,undef]
    exact⟨_,fun _ _ h=>h,_,a+1,s2,rfl,nxt_fin (by omega) (by omega),⟨o1,o2,by omega,by omega,by omega,by omega⟩,rfl⟩
  ·try simp only[cn]at h2
   refine AW.skip ?_
   simp only[thn,blk]
   refine hN2 _ ?_
   try clear hN2 N2
   refine AW.sr envOk (fun N hN=> ?_)
   simp-dsimp-implicitDefEqProofs (disch:=omega) only[go_sem,undef,w64,hH2]
   refine hN _ ?_
   try clear hN N
   refine AW.ret ?_
   simp-dsimp-implicitDefEqProofs (disch:=omega) only[go_sem,undef]
   exact⟨_,fun _ _ h=>h,_,a,s2,rfl,nxt_fin (by omega) (by omega),⟨o1,o2,by omega,by omega,by omega,by omega⟩,rfl⟩
theorem spec_l01From_n (bs:List Int) (hb:bytsok bs) (hn:bs.length≤4096) (nx:Nat):AC Tryz.prog 12 nx noH [byts bs] (fun nx' H' r=>∃id a s,r= .q id 0∧nx≤id∧id<nx'∧srOk bs a s∧H' id=some (srB bs a s)):=by
 refine AC.introx envOk Tryz.func12 rfl (by kernel_rfl) Tryz.ntmps12 Tryz.results12 (fun hfr cX=> ?_)
 refine AW.sr envOk (fun N hN=> ?_)
 simp-dsimp-implicitDefEqProofs (disch:=omega) only[go_sem,undef,w64,byts]
 refine hN _ ?_
 try clear hN N
 refine AW.sr envOk (fun N hN=> ?_)
 simp-dsimp-implicitDefEqProofs (disch:=omega) only[go_sem,undef,w64,byts]
 refine hN _ ?_
 try clear hN N
 refine AW.seq (fun N1 hN1=> ?_)
 refine AW.sr envOk (fun N hN=> ?_)
 simp-dsimp-implicitDefEqProofs (disch:=omega) only[go_sem,undef,w64,byts]
 refine hN _ ?_
 try clear hN N
 refine AW.block ?_
 refine AW.loopN (α:=Nat×Int) (fun x=>sl 34 [(0,byts bs),(3,.q (nx+1+2) 0),(4,.i .i64 x.1)]) (fun x=>upd noH (nx+1+2) (some (srB bs 0 x.2))) (fun x m=>(x.1≤bs.length∧nx+3<m)∧(0≤x.2∧x.2<2147483647)) (fun x=>bs.length-x.1) ((0,76001)) ?_ ?_ (by exact Le.refl _) ?_
 ·exact⟨⟨Nat.zero_le _,by first|omega|(simp only;omega)|(dsimp only;omega)⟩,by decide⟩
 ·simp(disch:=omega) [wks,wkA,sl,byts]<;>omega
 ·skip
  rintro⟨k,s⟩ m ⟨⟨hk,hm⟩,hs⟩
  dsimp only at hk hm hs ⊢
  simp only[byts,srB]
  simp-dsimp-implicitDefEqProofs (disch:=omega) only[go_sem,undef]
  refine AW.seq (fun N2 hN2=> ?_)
  refine AW.sr envOk (fun N hN=> ?_)
  simp-dsimp-implicitDefEqProofs (disch:=omega) only[go_sem,undef,w64,byts]
  refine gopB.mk' (fun h1=> ?_) (fun h1=> ?_)
  ·try simp only[cn]at h1
   have hbk:=hb.get (k:=k) (by omega)
   have hsr:0≤(s*71+bs.getD k 0).tmod 2147483647∧(s*71+bs.getD k 0).tmod 2147483647<2147483647:=by
    rw[Int.tmod_eq_emod_of_nonneg (by omega)]
    omega
   try simp-dsimp-implicitDefEqProofs (disch:=omega) only[go_sem,undef,w64,byts]
   refine hN _ ?_
   try clear hN N
   refine AW.cond rfl (fun h2=> ?_) (fun h2=> ?_)
   ·try simp only[cn]at h2
    refine AW.skip ?_
    simp only[thn,blk]
    refine hN2 _ ?_
    try clear hN2 N2
    refine AW.seq (fun N3 hN3=> ?_)
    refine AW.block ?_
    refine AW.drawL envOk (by kernel_rfl) 15 (by kernel_rfl) ?_
    simp-dsimp-implicitDefEqProofs (disch:=omega) only[hr_nil,hr_one,hr_if,List.take_succ_cons,List.take_zero,List.drop_succ_cons,List.drop_zero,List.take_nil,List.drop_nil,go_sem,undef,w64,byts,gd_u8]
    refine hN3 _ ?_
    try clear hN3 N3
    refine AW.regionL envOk ?_
    simp-dsimp-implicitDefEqProofs (disch:=omega) only[go_sem,undef,w64,byts]
    refine⟨(k+1,(s*71+bs.getD k 0).tmod 2147483647),?_,fun _ _ h=>h,?_,?_⟩
    ·simp(disch:=omega) [wks,wkA,sl,byts]<;>omega
    ·(try dsimp only);omega
    ·first|omega|(simp only;omega)
   ·try simp only[cn]at h2
    refine AW.exit ?_
    simp only[thn,blk,if_true]
    refine hN1 _ ?_
    try clear hN1 N1
    refine AW.sr envOk (fun N hN=> ?_)
    simp-dsimp-implicitDefEqProofs (disch:=omega) only[go_sem,undef,w64,byts]
    refine hN _ ?_
    try clear hN N
    refine AW.ret ?_
    simp-dsimp-implicitDefEqProofs (disch:=omega) only[go_sem,undef]
    exact⟨_,fun _ _ h=>h,nx+1+2,0,s,rfl,by omega,by omega,⟨hn,fun k hk=>hb.get hk,by omega,by omega,hs.1,hs.2⟩,upd_same _ _ _⟩
  ·try simp only[cn]at h1
   try simp-dsimp-implicitDefEqProofs (disch:=omega) only[go_sem,undef,w64,byts]
   refine hN _ ?_
   try clear hN N
   refine AW.condF rfl ?_
   refine AW.exit ?_
   simp only[thn,blk,if_true]
   refine hN1 _ ?_
   try clear hN1 N1
   refine AW.sr envOk (fun N hN=> ?_)
   simp-dsimp-implicitDefEqProofs (disch:=omega) only[go_sem,undef,w64,byts]
   refine hN _ ?_
   try clear hN N
   refine AW.ret ?_
   simp-dsimp-implicitDefEqProofs (disch:=omega) only[go_sem,undef]
   exact⟨_,fun _ _ h=>h,nx+1+2,0,s,rfl,by omega,by omega,⟨hn,fun k hk=>hb.get hk,by omega,by omega,hs.1,hs.2⟩,upd_same _ _ _⟩
end Go.Proofs.YtlcddiojeghfgaaGreatDoor
