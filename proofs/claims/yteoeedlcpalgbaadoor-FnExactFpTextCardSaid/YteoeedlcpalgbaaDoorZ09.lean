import Derived.Test.YteoeedlcpalgbaaDoorZ08
set_option linter.unusedVariables false
set_option linter.unusedSimpArgs false
namespace Go.Proofs.YteoeedlcpalgbaaDoor
open Nat (reduceAdd reduceSub reduceGT reduceEqDiff reduceMul)
def szS (a:List Int) (left:Int):Int:=if left-a.length<0 then-1 else left-a.length
theorem szS_ok (a:List Int) (left:Int) (h1:0≤left) (h2:left≤1048576) (ha:a.length≤9223372036854775807):
    ACp Tryd.prog 38 [ints a,.i .i64 left] (.i .i64 (szS a left)):=by
  refine ACp.intro' envOk Tryd.func38 rfl (by kernel_rfl) Tryd.ntmps38 Tryd.results38 (.i _ _) (fun nx=> ?_)
  refine AW.sr envOk (fun N hN=> ?_)
  simp-dsimp-implicitDefEqProofs (disch:=omega) only[go_sem,undef,]
  refine hN _ ?_
  try clear hN N
  refine AW.sr envOk (fun N hN=> ?_)
  simp-dsimp-implicitDefEqProofs (disch:=omega) only[go_sem,undef,ints]
  rw[w64 (by omega) (by omega)]
  refine hN _ ?_
  try clear hN N
  refine AW.seq (fun N1 hN1=> ?_)
  refine AW.sr envOk (fun N hN=> ?_)
  simp-dsimp-implicitDefEqProofs (disch:=omega) only[go_sem,undef,]
  refine hN _ ?_
  try clear hN N
  refine AW.cond rfl (fun h=> ?_) (fun h=> ?_)
  · refine AW.sr envOk (fun N hN=> ?_)
    simp-dsimp-implicitDefEqProofs (disch:=omega) only[go_sem,undef,]
    refine hN _ ?_
    try clear hN N
    refine AW.ret ?_
    simp-dsimp-implicitDefEqProofs (disch:=omega) only[go_sem,undef]
    simp[szS]at h ⊢;omega
  · refine AW.skip ?_
    simp only[thn,blk]
    refine hN1 _ ?_
    try clear hN1 N1
    refine AW.sr envOk (fun N hN=> ?_)
    simp-dsimp-implicitDefEqProofs (disch:=omega) only[go_sem,undef,]
    refine hN _ ?_
    try clear hN N
    refine AW.ret ?_
    simp-dsimp-implicitDefEqProofs (disch:=omega) only[go_sem,undef]
    simp[szS]at h ⊢;omega
def szGo {α:Type} (f:α→Int→Int):List α→Int→Int
  |[],l=>l
  |x::xs,l=>if f x l<0 then-1 else szGo f xs (f x l)
def szL {α:Type} (f:α→Int→Int) (a:List α) (left:Int):Int:=if left-a.length<0 then-1 else szGo f a (left-a.length)
def szSS:List (List Int)→Int→Int:=szL szS
theorem szS_le (a:List Int) (left:Int) (h:0≤left): -1≤szS a left∧szS a left≤left:=by
  unfold szS;split<;>omega
theorem szGo_le {α:Type} {f:α→Int→Int} (hf:∀x l,0≤l→-1≤f x l∧f x l≤l):∀(xs:List α) (l:Int),0≤l→-1≤szGo f xs l∧szGo f xs l≤l:=by
  intro xs
  induction xs with
  |nil=>intro l h;simp only[szGo];omega
  | cons x xs ih=>
    intro l h
    have:=hf x l h
    simp only[szGo]
    split
    · omega
    · have:=ih (f x l) (by omega);omega
theorem szL_le {α:Type} {f:α→Int→Int} (hf:∀x l,0≤l→-1≤f x l∧f x l≤l) (xs:List α) (l:Int) (h:0≤l): -1≤szL f xs l∧szL f xs l≤l:=by
  unfold szL
  split
  · omega
  · have:=szGo_le hf xs (l-xs.length) (by omega);omega
theorem szGo_step {α:Type} {f:α→Int→Int} (d:α) {a:List α} {k:Nat} (h:k<a.length) (l:Int):szGo f (a.drop k) l=if f (a.getD k d) l<0 then-1 else szGo f (a.drop (k+1)) (f (a.getD k d) l):=by
  rw[List.drop_eq_getElem_cons h]
  simp only[szGo]
  simp[h]
theorem szSS_ok (a:List (List Int)) (left:Int) (h1:0≤left) (h2:left≤1048576) (ha:rowsok a):
    ACp Tryd.prog 24 [rows a,.i .i64 left] (.i .i64 (szSS a left)):=by
  obtain⟨ha1,ha2⟩:=ha
  have hres:szSS a left=if left-a.length<0 then-1 else szGo szS a (left-a.length):=rfl
  refine ACp.intro' envOk Tryd.func24 rfl (by kernel_rfl) Tryd.ntmps24 Tryd.results24 (.i _ _) (fun nx=> ?_)
  refine AW.sr envOk (fun N hN=> ?_)
  simp-dsimp-implicitDefEqProofs (disch:=omega) only[go_sem,undef,]
  refine hN _ ?_
  try clear hN N
  refine AW.sr envOk (fun N hN=> ?_)
  simp-dsimp-implicitDefEqProofs (disch:=omega) only[go_sem,undef,rows]
  rw[w64 (by omega) (by omega)]
  refine hN _ ?_
  try clear hN N
  refine AW.seq (fun N1 hN1=> ?_)
  refine AW.sr envOk (fun N hN=> ?_)
  simp-dsimp-implicitDefEqProofs (disch:=omega) only[go_sem,undef,]
  refine hN _ ?_
  try clear hN N
  refine AW.cond rfl (fun h=> ?_) (fun h=> ?_)
  · refine AW.sr envOk (fun N hN=> ?_)
    simp-dsimp-implicitDefEqProofs (disch:=omega) only[go_sem,undef,]
    refine hN _ ?_
    try clear hN N
    refine AW.ret ?_
    simp-dsimp-implicitDefEqProofs (disch:=omega) only[go_sem,undef]
    simp at h
    rw[hres,if_pos (by omega)]
  · refine AW.skip ?_
    simp only[thn,blk]
    refine hN1 _ ?_
    try clear hN1 N1
    simp at h
    rw[if_neg (by omega)]at hres
    refine AW.seq (fun N1 hN1=> ?_)
    refine AW.sr envOk (fun N hN=> ?_)
    simp-dsimp-implicitDefEqProofs (disch:=omega) only[go_sem,undef,]
    refine hN _ ?_
    try clear hN N
    refine AW.block ?_
    refine AW.loop (α:=Nat×Int×Nat) (fun x=>⟨sl 27 [(0,rows a),(1,.i .i64 x.2.1),(5,.i .i64 x.1)],noH,x.2.2⟩)
      (fun x=>x.1≤a.length∧0≤x.2.1∧x.2.1≤1048576∧szGo szS (a.drop x.1) x.2.1=szSS a left∧nx≤x.2.2) (fun x=>a.length-x.1) (0,left-a.length,nx+1+5+2+1) ⟨by omega,by simpa using h,by simp;omega,by simp[hres],by simp;omega⟩ ?_ ?_
    · simp-dsimp-implicitDefEqProofs (disch:=omega) only[go_sem,undef]
      refine Wk.mk' (by simp[wks,wkA,ints,rows,cubes,]) ?_ (by first|omega|(dsimp only;omega))
      rfl
    · rintro⟨k,l,m⟩ ⟨hk,hl0,hl1,hl,hm⟩
      simp only at hk hl0 hl1 hl hm
      simp-dsimp-implicitDefEqProofs (disch:=omega) only[go_sem,undef]
      refine AW.seq (fun N2 hN2=> ?_)
      refine AW.sr envOk (fun N hN=> ?_)
      simp-dsimp-implicitDefEqProofs (disch:=omega) only[go_sem,undef,rows]
      refine hN _ ?_
      try clear hN N
      refine AW.cond rfl (fun h=> ?_) (fun h=> ?_)
      · refine AW.skip ?_
        simp only[thn,blk]
        refine hN2 _ ?_
        try clear hN2 N2
        have hk':k<a.length:=by simpa using h
        have hx:(a.getD k []).length≤9223372036854775807:=(ha2 _ (by simp[hk'])).1
        rw[szGo_step [] hk']at hl
        have hb:=szS_le (a.getD k []) l hl0
        refine AW.seq (fun N3 hN3=> ?_)
        refine AW.block ?_
        refine AW.sr envOk (fun N hN=> ?_)
        simp-dsimp-implicitDefEqProofs (disch:=omega) only[go_sem,undef,rows]
        refine AC.pure (.of (szS_ok (a.getD k []) l hl0 (by omega) hx)) ?_
        refine hN _ ?_
        try clear hN N
        refine AW.sr envOk (fun N hN=> ?_)
        simp-dsimp-implicitDefEqProofs (disch:=omega) only[go_sem,undef,]
        refine hN _ ?_
        try clear hN N
        refine AW.cond rfl (fun h3=> ?_) (fun h3=> ?_)
        · try simp only[cn]at h3
          rw[if_pos h3]at hl
          refine AW.sr envOk (fun N hN=> ?_)
          simp-dsimp-implicitDefEqProofs (disch:=omega) only[go_sem,undef,]
          refine hN _ ?_
          try clear hN N
          refine AW.ret ?_
          simp-dsimp-implicitDefEqProofs (disch:=omega) only[go_sem,undef]
          rw[hl]
        · try simp only[cn]at h3
          rw[if_neg (by omega)]at hl
          refine AW.skip ?_
          simp only[thn,blk]
          refine hN3 _ ?_
          try clear hN3 N3
          refine AW.regionL envOk ?_
          simp-dsimp-implicitDefEqProofs (disch:=omega) only[go_sem,undef,]
          rw[w64 (by omega) (by omega)]
          refine⟨(k+1,szS (a.getD k []) l,m+4+7+2+3),?_,⟨by simp only;omega,by simp only;omega,by simp only;omega,hl,by simp only;omega⟩,by simp only;omega⟩
          refine Wk.mk' (by simp[wks,wkA,ints,rows,cubes,]) ?_ (by first|omega|(dsimp only;omega))
          rfl
      · refine AW.exit ?_
        simp only[thn,blk,if_true]
        refine hN1 _ ?_
        try clear hN1 N1
        refine AW.sr envOk (fun N hN=> ?_)
        simp-dsimp-implicitDefEqProofs (disch:=omega) only[go_sem,undef,]
        refine hN _ ?_
        try clear hN N
        refine AW.ret ?_
        simp-dsimp-implicitDefEqProofs (disch:=omega) only[go_sem,undef]
        simp at h
        rw[List.drop_eq_nil_of_le (by omega)]at hl
        rw[←hl];rfl
end Go.Proofs.YteoeedlcpalgbaaDoor
