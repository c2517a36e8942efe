import Derived.Test.YtlcddiojeghfgaaDoorZ08
set_option linter.unusedVariables false
set_option linter.unusedSimpArgs false
namespace Go.Proofs.YtlcddiojeghfgaaDoor
open Nat (reduceAdd reduceSub reduceGT reduceEqDiff reduceMul)
theorem take_ext {α:Type} (d:α) {a b:List α} (hl:a.length=b.length) {k:Nat} (hk:k<a.length) (h:a.take k=b.take k) (he:a.getD k d=b.getD k d):a.take (k+1)=b.take (k+1):=by
  rw[List.take_add_one,List.take_add_one,h]
  congr 1
  simp[hk,show k<b.length by omega]at he
  simp[hk,show k<b.length by omega,he]
theorem laws_eqInt64S_ok (a b:List Int) (ha:a.length≤9223372036854775807) (hb:b.length≤9223372036854775807):ACp Tryd.prog 31 [ints a,ints b] (.b (decide (a=b))):=by
  refine ACp.intro' envOk Tryd.func31 rfl (by kernel_rfl) Tryd.ntmps31 Tryd.results31 (.b _) (fun nx cX=> ?_)
  refine AW.sr envOk (fun N hN=> ?_)
  simp-dsimp-implicitDefEqProofs (disch:=omega) only[go_sem,undef,]
  refine hN _ ?_
  try clear hN N
  refine AW.seq (fun N1 hN1=> ?_)
  refine AW.sr envOk (fun N hN=> ?_)
  simp-dsimp-implicitDefEqProofs (disch:=omega) only[go_sem,undef,ints]
  refine hN _ ?_
  try clear hN N
  refine AW.cond rfl (fun h1=> ?_) (fun h1=> ?_)
  · try simp only[cn]at h1
    refine AW.sr envOk (fun N hN=> ?_)
    simp-dsimp-implicitDefEqProofs (disch:=omega) only[go_sem,undef,]
    refine hN _ ?_
    try clear hN N
    refine AW.ret ?_
    simp-dsimp-implicitDefEqProofs (disch:=omega) only[go_sem,undef]
    have:a≠b:=fun e=>h1 (by rw[e])
    simp[this]
  · try simp only[cn]at h1
    have hl:a.length=b.length:=by omega
    refine AW.skip ?_
    simp only[thn,blk]
    refine hN1 _ ?_
    try clear hN1 N1
    refine AW.seq (fun N2 hN2=> ?_)
    refine AW.sr envOk (fun N hN=> ?_)
    simp-dsimp-implicitDefEqProofs (disch:=omega) only[go_sem,undef,]
    refine hN _ ?_
    try clear hN N
    refine AW.block ?_
    refine AW.loop (α:=Nat×Nat) (fun x=>⟨sl 26 [(0,ints a),(1,ints b),(5,.i .i64 x.1)],noH,x.2⟩)
      (fun x=>x.1≤a.length∧nx≤x.2∧a.take x.1=b.take x.1) (fun x=>a.length-x.1) (0,nx+1+5+1) ⟨by simp only;omega,by simp only;omega,rfl⟩ ?_ ?_
    · simp-dsimp-implicitDefEqProofs (disch:=omega) only[go_sem,undef]
      refine Wk.mk' (by simp[wks,wkA,ints,rows,cubes,]) ?_ (by first|omega|(dsimp only;omega))
      rfl
    · rintro⟨k,m⟩ ⟨hk,hm,he⟩
      simp only at hk hm he
      simp-dsimp-implicitDefEqProofs (disch:=omega) only[go_sem,undef]
      refine AW.seq (fun N3 hN3=> ?_)
      refine AW.sr envOk (fun N hN=> ?_)
      simp-dsimp-implicitDefEqProofs (disch:=omega) only[go_sem,undef,ints]
      refine hN _ ?_
      try clear hN N
      refine AW.cond rfl (fun h2=> ?_) (fun h2=> ?_)
      · try simp only[cn]at h2
        refine AW.skip ?_
        simp only[thn,blk]
        refine hN3 _ ?_
        try clear hN3 N3
        refine AW.seq (fun N4 hN4=> ?_)
        refine AW.block ?_
        refine AW.seq (fun N hN=> ?_)
        refine AW.drawL envOk (by kernel_rfl) 9 (by kernel_rfl) ?_
        simp-dsimp-implicitDefEqProofs (disch:=omega) only[hr_nil,hr_one,hr_if,List.take_succ_cons,List.take_zero,List.drop_succ_cons,List.drop_zero,List.take_nil,List.drop_nil,go_sem,undef,ints,gd_i]
        refine hN _ ?_
        try clear hN N
        refine AW.cond rfl (fun h3=> ?_) (fun h3=> ?_)
        · try simp only[cn]at h3
          refine AW.sr envOk (fun N hN=> ?_)
          simp-dsimp-implicitDefEqProofs (disch:=omega) only[go_sem,undef,]
          refine hN _ ?_
          try clear hN N
          refine AW.ret ?_
          simp-dsimp-implicitDefEqProofs (disch:=omega) only[go_sem,undef]
          have:a≠b:=fun e=>h3 (by rw[e])
          simp[this]
        · try simp only[cn]at h3
          refine AW.skip ?_
          simp only[thn,blk]
          refine hN4 _ ?_
          try clear hN4 N4
          refine AW.regionL envOk ?_
          simp-dsimp-implicitDefEqProofs (disch:=omega) only[go_sem,undef,]
          refine⟨(k+1,m+4+9+3),?_,⟨by simp only;omega,by simp only;omega,take_ext 0 hl (by omega) he h3⟩,by simp only;omega⟩
          rw[w64 (by omega) (by omega)]
          refine Wk.mk' (by simp[wks,wkA,ints,rows,cubes,]) ?_ (by first|omega|(dsimp only;omega))
          rfl
      · try simp only[cn]at h2
        refine AW.exit ?_
        simp only[thn,blk,if_true]
        refine hN2 _ ?_
        try clear hN2 N2
        refine AW.sr envOk (fun N hN=> ?_)
        simp-dsimp-implicitDefEqProofs (disch:=omega) only[go_sem,undef,]
        refine hN _ ?_
        try clear hN N
        refine AW.ret ?_
        simp-dsimp-implicitDefEqProofs (disch:=omega) only[go_sem,undef]
        have hk':k=a.length:=by omega
        subst hk'
        rw[List.take_length,hl,List.take_length]at he
        simp[he]
end Go.Proofs.YtlcddiojeghfgaaDoor
