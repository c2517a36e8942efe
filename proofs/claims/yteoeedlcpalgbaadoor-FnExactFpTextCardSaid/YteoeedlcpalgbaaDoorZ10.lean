import Derived.Test.YteoeedlcpalgbaaDoorZ08
set_option linter.unusedVariables false
set_option linter.unusedSimpArgs false
namespace Go.Proofs.YteoeedlcpalgbaaDoor
open Nat (reduceAdd reduceSub reduceGT reduceEqDiff reduceMul)
theorem toS_ok (a:List Int) (ha:a.length≤1099511627776):ACo Tryd.prog 42 [ints a] (ints a):=by
  intro nx
  refine AC.intro' envOk Tryd.func42 rfl (by kernel_rfl) Tryd.ntmps42 Tryd.results42 ?_
  refine AW.sr envOk (fun N hN=> ?_)
  simp-dsimp-implicitDefEqProofs (disch:=omega) only[go_sem,undef,]
  refine hN _ ?_
  try clear hN N
  refine AW.sr envOk (fun N hN=> ?_)
  simp-dsimp-implicitDefEqProofs (disch:=omega) only[go_sem,undef,ints]
  refine hN _ ?_
  try clear hN N
  refine AW.seq (fun N1 hN1=> ?_)
  refine AW.sr envOk (fun N hN=> ?_)
  simp-dsimp-implicitDefEqProofs (disch:=omega) only[go_sem,undef,]
  refine hN _ ?_
  try clear hN N
  refine AW.block ?_
  refine AW.loop (α:=Nat×Nat) (fun x=>⟨sl 22 [(0,ints a),(3,.h (nx+1+2) 0 a.length),(4,.i .i64 x.1)],upd noH (nx+1+2) (some ((a.take x.1).map (.i .i64)++List.replicate (a.length-x.1) (.i .i64 0))),x.2⟩)
    (fun x=>x.1≤a.length∧nx+5≤x.2) (fun x=>a.length-x.1) (0,nx+1+4+1) ⟨by omega,by omega⟩ ?_ ?_
  · simp-dsimp-implicitDefEqProofs (disch:=omega) only[go_sem,undef]
    refine Wk.mk' (by simp[wks,wkA,ints,rows,cubes,]) ?_ (by first|omega|(dsimp only;omega))
    simp
  · rintro⟨k,m⟩ ⟨hk,hm⟩
    simp only at hk hm
    simp-dsimp-implicitDefEqProofs (disch:=omega) only[go_sem,undef]
    refine AW.seq (fun N2 hN2=> ?_)
    refine AW.sr envOk (fun N hN=> ?_)
    simp-dsimp-implicitDefEqProofs (disch:=omega) only[go_sem,undef,ints]
    refine hN _ ?_
    try clear hN N
    refine AW.cond rfl (fun h=> ?_) (fun h=> ?_)
    · refine AW.skip ?_
      simp only[thn,blk]
      refine hN2 _ ?_
      try clear hN2 N2
      have hk':k<a.length:=by simpa using h
      refine AW.seq (fun N hN=> ?_)
      refine AW.block ?_
      refine AW.regionL envOk ?_
      simp-dsimp-implicitDefEqProofs (disch:=omega) only[go_sem,undef,ints]
      refine hN _ ?_
      try clear hN N
      refine AW.regionL envOk ?_
      simp-dsimp-implicitDefEqProofs (disch:=omega) only[go_sem,undef,]
      refine⟨(k+1,m+4+8+3),?_,⟨by omega,by omega⟩,by omega⟩
      rw[w64 (by omega) (by omega)]
      refine Wk.mk' (by simp[wks,wkA,ints,rows,cubes,]) ?_ (by first|omega|(dsimp only;omega))
      rw[upd_upd,splice_fill (.i .i64) 0 (.i .i64 0) a hk']
    · refine AW.exit ?_
      simp only[thn,blk,if_true]
      refine hN1 _ ?_
      try clear hN1 N1
      refine AW.sr envOk (fun N hN=> ?_)
      simp-dsimp-implicitDefEqProofs (disch:=omega) only[go_sem,undef,]
      refine hN _ ?_
      try clear hN N
      refine AW.ret ?_
      simp-dsimp-implicitDefEqProofs (disch:=omega) only[go_sem,undef]
      have hk':k=a.length:=by simp at h;omega
      subst hk'
      exact⟨_,Own.ints (by simp) rfl (by omega) (by omega)⟩
theorem take_map {α:Type} (f:α→AV) (d:α) (xs:List α) {k:Nat} (h:k<xs.length):(xs.take (k+1)).map f=(xs.take k).map f++[f (xs.getD k d)]:=by
  rw[List.take_add_one,List.map_append]
  simp[h]
theorem toSS_ok (a:List (List Int)) (ha:a.length≤1099511627776) (hb:∀x∈a,x.length≤1099511627776):ACo Tryd.prog 27 [rows a] (rows a):=by
  intro nx
  refine AC.intro' envOk Tryd.func27 rfl (by kernel_rfl) Tryd.ntmps27 Tryd.results27 ?_
  refine AW.sr envOk (fun N hN=> ?_)
  simp-dsimp-implicitDefEqProofs (disch:=omega) only[go_sem,undef,]
  refine hN _ ?_
  try clear hN N
  refine AW.sr envOk (fun N hN=> ?_)
  simp-dsimp-implicitDefEqProofs (disch:=omega) only[go_sem,undef,rows]
  refine hN _ ?_
  try clear hN N
  refine AW.seq (fun N1 hN1=> ?_)
  refine AW.sr envOk (fun N hN=> ?_)
  simp-dsimp-implicitDefEqProofs (disch:=omega) only[go_sem,undef,]
  refine hN _ ?_
  try clear hN N
  refine AW.block ?_
  refine AW.loop (α:=Nat×List AV×HP×Nat) (fun x=>⟨sl 23 [(0,rows a),(3,.h (nx+1+2) 0 a.length),(4,.i .i64 x.1)],x.2.2.1,x.2.2.2⟩)
    (fun x=>nx+5≤x.2.2.2∧OL nx x.2.2.2 (nx+1+2) x.2.2.1 a.length .nl x.1 x.2.1 ((a.take x.1).map ints)) (fun x=>a.length-x.1) (0,[],upd noH (nx+1+2) (some (List.replicate a.length .nl)),nx+1+4+1) ⟨by simp only;omega,OL.start (by simp) (by omega) (by simp only;omega)⟩ ?_ ?_
  · simp-dsimp-implicitDefEqProofs (disch:=omega) only[go_sem,undef]
    refine Wk.mk' (by simp[wks,wkA,ints,rows,cubes,]) ?_ (by first|omega|(dsimp only;omega))
    simp
  · rintro⟨k,rs,H,m⟩ ⟨hm,hol⟩
    simp only at hm hol
    obtain⟨hH,hrs,hk,_,_⟩:=hol.cells
    simp-dsimp-implicitDefEqProofs (disch:=omega) only[go_sem,undef]
    refine AW.seq (fun N2 hN2=> ?_)
    refine AW.sr envOk (fun N hN=> ?_)
    simp-dsimp-implicitDefEqProofs (disch:=omega) only[go_sem,undef,rows]
    refine hN _ ?_
    try clear hN N
    refine AW.cond rfl (fun h=> ?_) (fun h=> ?_)
    · try simp only[cn]at h
      refine AW.skip ?_
      simp only[thn,blk]
      refine hN2 _ ?_
      try clear hN2 N2
      have hk':k<a.length:=by simpa using h
      have hx:(a.getD k []).length≤1099511627776:=hb _ (by simp[hk'])
      refine AW.seq (fun N3 hN3=> ?_)
      refine AW.block ?_
      refine AW.regionL envOk ?_
      simp-dsimp-implicitDefEqProofs (disch:=omega) only[go_sem,undef,rows]
      refine AC.own (toS_ok (a.getD k []) hx) (.cons (.refl _) .nil) ?_
      intro m' H' r ids hm' hH' hown
      obtain⟨c1,c2,c3⟩:=hown.1.slice
      have hid:H' (nx+1+2)=some (rs++List.replicate (a.length-k) .nl):=by rw[hH' _ (by omega),hH]
      try simp-dsimp-implicitDefEqProofs (disch:=omega) only[go_sem,undef,hid,c1,c2,c3,hrs]
      refine hN3 _ ?_
      try clear hN3 N3
      refine AW.regionL envOk ?_
      simp-dsimp-implicitDefEqProofs (disch:=omega) only[go_sem,undef,]
      refine⟨(k+1,rs++[r],upd H' (nx+1+2) (some (splice (rs++List.replicate (a.length-k) .nl) k [r])),m'+3),?_,⟨by simp only;omega,?_⟩,by simp only;omega⟩
      · rw[w64 (by omega) (by omega)]
        refine Wk.mk' (by simp[wks,wkA,ints,rows,cubes,]) ?_ (by first|omega|(dsimp only;omega))
        rfl
      · simp only
        rw[take_map ints [] a hk']
        exact(hol.step hk' hH' (by omega) (by omega) hown).more (by omega)
    · try simp only[cn]at h
      refine AW.exit ?_
      simp only[thn,blk,if_true]
      refine hN1 _ ?_
      try clear hN1 N1
      refine AW.sr envOk (fun N hN=> ?_)
      simp-dsimp-implicitDefEqProofs (disch:=omega) only[go_sem,undef,]
      refine hN _ ?_
      try clear hN N
      refine AW.ret ?_
      simp-dsimp-implicitDefEqProofs (disch:=omega) only[go_sem,undef]
      have hk':k=a.length:=by omega
      subst hk'
      rw[List.take_length]at hol
      exact(hol.more (by omega)).done
end Go.Proofs.YteoeedlcpalgbaaDoor
