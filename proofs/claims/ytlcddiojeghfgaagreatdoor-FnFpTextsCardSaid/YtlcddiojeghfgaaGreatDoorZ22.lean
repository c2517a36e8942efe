import Derived.Test.YtlcddiojeghfgaaGreatDoorZ21
set_option linter.unusedVariables false
set_option linter.unusedSimpArgs false
namespace Go.Proofs.YtlcddiojeghfgaaGreatDoor
open Nat (reduceAdd reduceSub reduceGT reduceEqDiff reduceMul)
def byt (s:ByteArray) (i:Nat):Int:=((s.data.getD i 0).toNat:Int)
theorem byt_le (s:ByteArray) (i:Nat):0≤byt s i∧byt s i≤255:=by
  have:=(s.data.getD i 0).toNat_lt
  unfold byt;omega
def vpre (s:ByteArray):Nat→Int
  |0=>0
  |i+1=>10*vpre s i+(byt s i-48)
def isDig (s:ByteArray) (i:Nat):Prop:=48≤byt s i∧byt s i≤57
def digs (s:ByteArray):Prop:=∀i,i<s.size→isDig s i
open Classical in
noncomputable def valS (s:ByteArray):Int:=
  if s.size=0∨6<s.size∨(1<s.size∧byt s 0=48)then-1 else if digs s then vpre s s.size else-1
theorem vpre_le {s:ByteArray}:∀i,(∀j,j<i→isDig s j)→0≤vpre s i∧vpre s i<10^i:=by
  intro i
  induction i with
  |zero=>intro _;rw[vpre];exact⟨by decide,by decide⟩
  | succ i ih=>
    intro h
    have h1:=ih (fun j hj=>h j (by omega))
    have h2:=h i (by omega)
    have h3:(10:Int)^(i+1)=10*10^i:=by rw[Int.pow_succ];omega
    unfold isDig at h2
    rw[vpre,h3];omega
theorem vpre_6 {s:ByteArray} {i:Nat} (hi:i≤6) (h:∀j,j<i→isDig s j):0≤vpre s i∧vpre s i<1000000:=by
  have h1:=vpre_le i h
  have h2:(10:Int)^i≤1000000:=by
    match i,hi with
    |0,_=>decide
    |1,_=>decide
    |2,_=>decide
    |3,_=>decide
    |4,_=>decide
    |5,_=>decide
    |6,_=>decide
  omega
theorem val_bad {s:ByteArray} (h:s.size=0∨6<s.size∨(1<s.size∧byt s 0=48)):valS s= -1:=by rw[valS,if_pos h]
theorem val_no {s:ByteArray} {k:Nat} (hk:k<s.size) (h:¬isDig s k):valS s= -1:=by
  rw[valS];split
  · rfl
  · rw[if_neg (fun hd=>h (hd k hk))]
theorem val_yes {s:ByteArray} (h:¬(s.size=0∨6<s.size∨(1<s.size∧byt s 0=48))) (hd:∀j,j<s.size→isDig s j):valS s=vpre s s.size:=by
  rw[valS,if_neg h];exact if_pos (show digs s from hd)
theorem dig_nx {s:ByteArray} {k:Nat} (hd:∀j,j<k→isDig s j) (hk:isDig s k):∀j,j<k+1→isDig s j:=by
  intro j hj
  by_cases e:j=k
  · subst e;exact hk
  · exact hd j (by omega)
theorem w8 {n:Int} (h0:0≤n) (h1:n≤255):IntKind.u8.wrap n=n:=by
  simp only[IntKind.wrap,IntKind.bits,IntKind.signed,Bool.false_and,Bool.false_eq_true,if_false]
  omega
set_option maxHeartbeats 2000000 in theorem spec_l01Value_ok (s:ByteArray):ACp Tryz.prog 115 [.s s] (.i .i64 (valS s)):=by
 refine ACp.intro' envOk Tryz.func115 rfl (by kernel_rfl) Tryz.ntmps115 Tryz.results115 (.i _ _) (fun nx cX=> ?_)
 refine AW.sr envOk (fun N hN=> ?_)
 simp-dsimp-implicitDefEqProofs (disch:=omega) only[go_sem,undef,w64]
 refine hN _ ?_
 try clear hN N
 refine AW.seq (fun N1 hN1=> ?_)
 refine AW.sr envOk (fun N hN=> ?_)
 simp-dsimp-implicitDefEqProofs (disch:=omega) only[go_sem,undef,w64]
 refine gopB.mk' (fun h1=> ?_) (fun h1=> ?_)
 ·try simp only[cn]at h1
  try simp-dsimp-implicitDefEqProofs (disch:=omega) only[go_sem,undef,w64]
  refine gopB.mk' (fun h2=> ?_) (fun h2=> ?_)
  ·try simp only[cn]at h2
   try simp-dsimp-implicitDefEqProofs (disch:=omega) only[go_sem,undef,w64]
   refine gopB.mk' (fun h3=> ?_) (fun h3=> ?_)
   ·try simp only[cn]at h3
    try simp-dsimp-implicitDefEqProofs (disch:=omega) only[go_sem,undef,w64]
    refine hN _ ?_
    try clear hN N
    refine AW.cond rfl (fun h4=> ?_) (fun h4=> ?_)
    ·try simp only[cn]at h4
     refine AW.sr envOk (fun N hN=> ?_)
     simp-dsimp-implicitDefEqProofs (disch:=omega) only[go_sem,undef,w64]
     refine hN _ ?_
     try clear hN N
     refine AW.ret ?_
     simp-dsimp-implicitDefEqProofs (disch:=omega) only[go_sem,undef]
     exact congrArg _ (val_bad (.inr (.inr ⟨by omega,h4⟩))).symm
    ·try simp only[cn]at h4
     have hok:¬(s.size=0∨6<s.size∨(1<s.size∧byt s 0=48)):=by
      rintro(h|h|⟨_,h⟩)
      ·omega
      ·omega
      ·exact h4 h
     refine AW.skip ?_
     simp only[thn,blk]
     refine hN1 _ ?_
     try clear hN1 N1
     refine AW.sr envOk (fun N hN=> ?_)
     simp-dsimp-implicitDefEqProofs (disch:=omega) only[go_sem,undef,w64]
     refine hN _ ?_
     try clear hN N
     refine AW.seq (fun N2 hN2=> ?_)
     refine AW.sr envOk (fun N hN=> ?_)
     simp-dsimp-implicitDefEqProofs (disch:=omega) only[go_sem,undef,w64]
     refine hN _ ?_
     try clear hN N
     refine AW.block ?_
     refine AW.loopN (α:=Nat) (fun x=>sl 48 [(0,.s s),(3,.i .i64 (vpre s x)),(4,.i .i64 x)]) (fun _=>noH) (fun x m=>x≤s.size∧∀j,j<x→isDig s j) (fun x=>s.size-x) (0) ?_ ?_ (fun _ _ h=>h) ?_
     ·exact⟨by omega,by intro j hj;omega⟩
     ·simp(disch:=omega) [wks,wkA,sl,vpre]
     ·skip
      rintro k m ⟨hk,hd⟩
      have hv:=vpre_6 (s:=s) (i:=k) (by omega) hd
      have hb:=byt_le s k
      refine AW.seq (fun N3 hN3=> ?_)
      refine AW.sr envOk (fun N hN=> ?_)
      simp-dsimp-implicitDefEqProofs (disch:=omega) only[go_sem,undef,w64]
      refine hN _ ?_
      try clear hN N
      refine AW.cond rfl (fun h5=> ?_) (fun h5=> ?_)
      ·try simp only[cn]at h5
       have hk2:k<s.size:=by omega
       refine AW.skip ?_
       simp only[thn,blk]
       refine hN3 _ ?_
       try clear hN3 N3
       refine AW.seq (fun N4 hN4=> ?_)
       refine AW.block ?_
       refine AW.seq (fun N5 hN5=> ?_)
       refine AW.sr envOk (fun N hN=> ?_)
       simp-dsimp-implicitDefEqProofs (disch:=omega) only[go_sem,undef,w64]
       refine gopB.mk' (fun h6=> ?_) (fun h6=> ?_)
       ·try simp only[cn]at h6
        try simp-dsimp-implicitDefEqProofs (disch:=omega) only[go_sem,undef,w64]
        refine hN _ ?_
        try clear hN N
        refine AW.cond rfl (fun h7=> ?_) (fun h7=> ?_)
        ·try simp only[cn]at h7
         refine AW.sr envOk (fun N hN=> ?_)
         simp-dsimp-implicitDefEqProofs (disch:=omega) only[go_sem,undef,w64]
         refine hN _ ?_
         try clear hN N
         refine AW.ret ?_
         simp-dsimp-implicitDefEqProofs (disch:=omega) only[go_sem,undef]
         exact congrArg _ (val_no hk2 (fun hd=>by unfold isDig byt at hd;omega)).symm
        ·try simp only[cn]at h7
         have hdk:isDig s k:=by unfold isDig byt;omega
         refine AW.skip ?_
         simp only[thn,blk]
         refine hN5 _ ?_
         try clear hN5 N5
         refine AW.regionL envOk ?_
         simp-dsimp-implicitDefEqProofs (disch:=omega) only[go_sem,undef,w64,w8]
         refine hN4 _ ?_
         try clear hN4 N4
         refine AW.regionL envOk ?_
         simp-dsimp-implicitDefEqProofs (disch:=omega) only[go_sem,undef,w64]
         refine⟨k+1,?_,fun _ _ h=>h,?_,?_⟩
         ·simp(disch:=omega) [wks,wkA,sl,vpre,byt,w64,w8]
         ·exact⟨by omega,dig_nx hd hdk⟩
         ·first|omega|(simp only;omega)
       ·try simp only[cn]at h6
        try simp-dsimp-implicitDefEqProofs (disch:=omega) only[go_sem,undef,w64]
        refine hN _ ?_
        try clear hN N
        refine AW.condT rfl ?_
        refine AW.sr envOk (fun N hN=> ?_)
        simp-dsimp-implicitDefEqProofs (disch:=omega) only[go_sem,undef,w64]
        refine hN _ ?_
        try clear hN N
        refine AW.ret ?_
        simp-dsimp-implicitDefEqProofs (disch:=omega) only[go_sem,undef]
        exact congrArg _ (val_no hk2 (fun hd=>by unfold isDig byt at hd;omega)).symm
      ·try simp only[cn]at h5
       obtain rfl:k=s.size:=by omega
       refine AW.exit ?_
       simp only[thn,blk,if_true]
       refine hN2 _ ?_
       try clear hN2 N2
       refine AW.sr envOk (fun N hN=> ?_)
       simp-dsimp-implicitDefEqProofs (disch:=omega) only[go_sem,undef,w64,w8]
       refine hN _ ?_
       try clear hN N
       refine AW.ret ?_
       simp-dsimp-implicitDefEqProofs (disch:=omega) only[go_sem,undef]
       exact congrArg _ (val_yes hok hd).symm
   ·try simp only[cn]at h3
    have hok:¬(s.size=0∨6<s.size∨(1<s.size∧byt s 0=48)):=by
     rintro(h|h|⟨h,_⟩)<;>omega
    try simp-dsimp-implicitDefEqProofs (disch:=omega) only[go_sem,undef,w64]
    refine hN _ ?_
    try clear hN N
    refine AW.condF rfl ?_
    refine AW.skip ?_
    simp only[thn,blk]
    refine hN1 _ ?_
    try clear hN1 N1
    refine AW.sr envOk (fun N hN=> ?_)
    simp-dsimp-implicitDefEqProofs (disch:=omega) only[go_sem,undef,w64]
    refine hN _ ?_
    try clear hN N
    refine AW.seq (fun N6 hN6=> ?_)
    refine AW.sr envOk (fun N hN=> ?_)
    simp-dsimp-implicitDefEqProofs (disch:=omega) only[go_sem,undef,w64]
    refine hN _ ?_
    try clear hN N
    refine AW.block ?_
    refine AW.loopN (α:=Nat) (fun x=>sl 48 [(0,.s s),(3,.i .i64 (vpre s x)),(4,.i .i64 x)]) (fun _=>noH) (fun x m=>x≤s.size∧∀j,j<x→isDig s j) (fun x=>s.size-x) (0) ?_ ?_ (fun _ _ h=>h) ?_
    ·exact⟨by omega,by intro j hj;omega⟩
    ·simp(disch:=omega) [wks,wkA,sl,vpre]
    ·skip
     rintro k m ⟨hk,hd⟩
     have hv:=vpre_6 (s:=s) (i:=k) (by omega) hd
     have hb:=byt_le s k
     refine AW.seq (fun N7 hN7=> ?_)
     refine AW.sr envOk (fun N hN=> ?_)
     simp-dsimp-implicitDefEqProofs (disch:=omega) only[go_sem,undef,w64]
     refine hN _ ?_
     try clear hN N
     refine AW.cond rfl (fun h8=> ?_) (fun h8=> ?_)
     ·try simp only[cn]at h8
      have hk2:k<s.size:=by omega
      refine AW.skip ?_
      simp only[thn,blk]
      refine hN7 _ ?_
      try clear hN7 N7
      refine AW.seq (fun N8 hN8=> ?_)
      refine AW.block ?_
      refine AW.seq (fun N9 hN9=> ?_)
      refine AW.sr envOk (fun N hN=> ?_)
      simp-dsimp-implicitDefEqProofs (disch:=omega) only[go_sem,undef,w64]
      refine gopB.mk' (fun h9=> ?_) (fun h9=> ?_)
      ·try simp only[cn]at h9
       try simp-dsimp-implicitDefEqProofs (disch:=omega) only[go_sem,undef,w64]
       refine hN _ ?_
       try clear hN N
       refine AW.cond rfl (fun h10=> ?_) (fun h10=> ?_)
       ·try simp only[cn]at h10
        refine AW.sr envOk (fun N hN=> ?_)
        simp-dsimp-implicitDefEqProofs (disch:=omega) only[go_sem,undef,w64]
        refine hN _ ?_
        try clear hN N
        refine AW.ret ?_
        simp-dsimp-implicitDefEqProofs (disch:=omega) only[go_sem,undef]
        exact congrArg _ (val_no hk2 (fun hd=>by unfold isDig byt at hd;omega)).symm
       ·try simp only[cn]at h10
        have hdk:isDig s k:=by unfold isDig byt;omega
        refine AW.skip ?_
        simp only[thn,blk]
        refine hN9 _ ?_
        try clear hN9 N9
        refine AW.regionL envOk ?_
        simp-dsimp-implicitDefEqProofs (disch:=omega) only[go_sem,undef,w64,w8]
        refine hN8 _ ?_
        try clear hN8 N8
        refine AW.regionL envOk ?_
        simp-dsimp-implicitDefEqProofs (disch:=omega) only[go_sem,undef,w64]
        refine⟨k+1,?_,fun _ _ h=>h,?_,?_⟩
        ·simp(disch:=omega) [wks,wkA,sl,vpre,byt,w64,w8]
        ·exact⟨by omega,dig_nx hd hdk⟩
        ·first|omega|(simp only;omega)
      ·try simp only[cn]at h9
       try simp-dsimp-implicitDefEqProofs (disch:=omega) only[go_sem,undef,w64]
       refine hN _ ?_
       try clear hN N
       refine AW.condT rfl ?_
       refine AW.sr envOk (fun N hN=> ?_)
       simp-dsimp-implicitDefEqProofs (disch:=omega) only[go_sem,undef,w64]
       refine hN _ ?_
       try clear hN N
       refine AW.ret ?_
       simp-dsimp-implicitDefEqProofs (disch:=omega) only[go_sem,undef]
       exact congrArg _ (val_no hk2 (fun hd=>by unfold isDig byt at hd;omega)).symm
     ·try simp only[cn]at h8
      obtain rfl:k=s.size:=by omega
      refine AW.exit ?_
      simp only[thn,blk,if_true]
      refine hN6 _ ?_
      try clear hN6 N6
      refine AW.sr envOk (fun N hN=> ?_)
      simp-dsimp-implicitDefEqProofs (disch:=omega) only[go_sem,undef,w64,w8]
      refine hN _ ?_
      try clear hN N
      refine AW.ret ?_
      simp-dsimp-implicitDefEqProofs (disch:=omega) only[go_sem,undef]
      exact congrArg _ (val_yes hok hd).symm
  ·try simp only[cn]at h2
   try simp-dsimp-implicitDefEqProofs (disch:=omega) only[go_sem,undef,w64]
   refine hN _ ?_
   try clear hN N
   refine AW.condT rfl ?_
   refine AW.sr envOk (fun N hN=> ?_)
   simp-dsimp-implicitDefEqProofs (disch:=omega) only[go_sem,undef,w64]
   refine hN _ ?_
   try clear hN N
   refine AW.ret ?_
   simp-dsimp-implicitDefEqProofs (disch:=omega) only[go_sem,undef]
   exact congrArg _ (val_bad (.inr (.inl (by omega)))).symm
 ·try simp only[cn]at h1
  try simp-dsimp-implicitDefEqProofs (disch:=omega) only[go_sem,undef,w64]
  refine hN _ ?_
  try clear hN N
  refine AW.condT rfl ?_
  refine AW.sr envOk (fun N hN=> ?_)
  simp-dsimp-implicitDefEqProofs (disch:=omega) only[go_sem,undef,w64]
  refine hN _ ?_
  try clear hN N
  refine AW.ret ?_
  simp-dsimp-implicitDefEqProofs (disch:=omega) only[go_sem,undef]
  exact congrArg _ (val_bad (.inl (by omega))).symm
end Go.Proofs.YtlcddiojeghfgaaGreatDoor
