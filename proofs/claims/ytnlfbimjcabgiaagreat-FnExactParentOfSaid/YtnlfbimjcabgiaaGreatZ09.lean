import Derived.Test.YtnlfbimjcabgiaaGreatZ08
set_option linter.unusedVariables false
set_option linter.unusedSimpArgs false
namespace Go.Proofs.YtnlfbimjcabgiaaGreat
open Nat (reduceAdd reduceSub reduceGT reduceEqDiff reduceMul)
def szS (a:List Int) (left:Int):Int:=if left-a.length<0 then-1 else left-a.length
theorem szS_ok (a:List Int) (left:Int) (h1:0≤left) (h2:left≤1048576) (ha:a.length≤9223372036854775807):
    ACp Tryz.prog 21 [ints a,.i .i64 left] (.i .i64 (szS a left)):=by
  refine ACp.intro' envOk Tryz.func21 rfl (by kernel_rfl) Tryz.ntmps21 Tryz.results21 (.i _ _) (fun nx=> ?_)
  refine AW.sr envOk (fun N hN=> ?_)
  simp-dsimp-implicitDefEqProofs (disch:=omega) only[go_sem,undef,]
  refine hN _ ?_
  try clear hN N
  refine AW.sr envOk (fun N hN=> ?_)
  simp-dsimp-implicitDefEqProofs (disch:=omega) only[go_sem,undef,ints]
  rw[w64 (by omega) (by omega)]
  refine hN _ ?_
  try clear hN N
  refine AW.seq (fun N1 hN1=> ?_)
  refine AW.sr envOk (fun N hN=> ?_)
  simp-dsimp-implicitDefEqProofs (disch:=omega) only[go_sem,undef,]
  refine hN _ ?_
  try clear hN N
  refine AW.cond rfl (fun h=> ?_) (fun h=> ?_)
  · refine AW.sr envOk (fun N hN=> ?_)
    simp-dsimp-implicitDefEqProofs (disch:=omega) only[go_sem,undef,]
    refine hN _ ?_
    try clear hN N
    refine AW.ret ?_
    simp-dsimp-implicitDefEqProofs (disch:=omega) only[go_sem,undef]
    simp[szS]at h ⊢;omega
  · refine AW.skip ?_
    simp only[thn,blk]
    refine hN1 _ ?_
    try clear hN1 N1
    refine AW.sr envOk (fun N hN=> ?_)
    simp-dsimp-implicitDefEqProofs (disch:=omega) only[go_sem,undef,]
    refine hN _ ?_
    try clear hN N
    refine AW.ret ?_
    simp-dsimp-implicitDefEqProofs (disch:=omega) only[go_sem,undef]
    simp[szS]at h ⊢;omega
def szGo {α:Type} (f:α→Int→Int):List α→Int→Int
  |[],l=>l
  |x::xs,l=>if f x l<0 then-1 else szGo f xs (f x l)
def szL {α:Type} (f:α→Int→Int) (a:List α) (left:Int):Int:=if left-a.length<0 then-1 else szGo f a (left-a.length)
def szSS:List (List Int)→Int→Int:=szL szS
def szSSS:List (List (List Int))→Int→Int:=szL szSS
theorem szS_le (a:List Int) (left:Int) (h:0≤left): -1≤szS a left∧szS a left≤left:=by
  unfold szS;split<;>omega
theorem szGo_le {α:Type} {f:α→Int→Int} (hf:∀x l,0≤l→-1≤f x l∧f x l≤l):∀(xs:List α) (l:Int),0≤l→-1≤szGo f xs l∧szGo f xs l≤l:=by
  intro xs
  induction xs with
  |nil=>intro l h;simp only[szGo];omega
  | cons x xs ih=>
    intro l h
    have:=hf x l h
    simp only[szGo]
    split
    · omega
    · have:=ih (f x l) (by omega);omega
theorem szL_le {α:Type} {f:α→Int→Int} (hf:∀x l,0≤l→-1≤f x l∧f x l≤l) (xs:List α) (l:Int) (h:0≤l): -1≤szL f xs l∧szL f xs l≤l:=by
  unfold szL
  split
  · omega
  · have:=szGo_le hf xs (l-xs.length) (by omega);omega
theorem szGo_step {α:Type} {f:α→Int→Int} (d:α) {a:List α} {k:Nat} (h:k<a.length) (l:Int):szGo f (a.drop k) l=if f (a.getD k d) l<0 then-1 else szGo f (a.drop (k+1)) (f (a.getD k d) l):=by
  rw[List.drop_eq_getElem_cons h]
  simp only[szGo]
  simp[h]
theorem szSS_ok (a:List (List Int)) (left:Int) (h1:0≤left) (h2:left≤1048576) (ha:rowsok a):
    ACp Tryz.prog 20 [rows a,.i .i64 left] (.i .i64 (szSS a left)):=by
  obtain⟨ha1,ha2⟩:=ha
  have hres:szSS a left=if left-a.length<0 then-1 else szGo szS a (left-a.length):=rfl
  refine ACp.intro' envOk Tryz.func20 rfl (by kernel_rfl) Tryz.ntmps20 Tryz.results20 (.i _ _) (fun nx=> ?_)
  refine AW.sr envOk (fun N hN=> ?_)
  simp-dsimp-implicitDefEqProofs (disch:=omega) only[go_sem,undef,]
  refine hN _ ?_
  try clear hN N
  refine AW.sr envOk (fun N hN=> ?_)
  simp-dsimp-implicitDefEqProofs (disch:=omega) only[go_sem,undef,rows]
  rw[w64 (by omega) (by omega)]
  refine hN _ ?_
  try clear hN N
  refine AW.seq (fun N1 hN1=> ?_)
  refine AW.sr envOk (fun N hN=> ?_)
  simp-dsimp-implicitDefEqProofs (disch:=omega) only[go_sem,undef,]
  refine hN _ ?_
  try clear hN N
  refine AW.cond rfl (fun h=> ?_) (fun h=> ?_)
  · refine AW.sr envOk (fun N hN=> ?_)
    simp-dsimp-implicitDefEqProofs (disch:=omega) only[go_sem,undef,]
    refine hN _ ?_
    try clear hN N
    refine AW.ret ?_
    simp-dsimp-implicitDefEqProofs (disch:=omega) only[go_sem,undef]
    simp at h
    rw[hres,if_pos (by omega)]
  · refine AW.skip ?_
    simp only[thn,blk]
    refine hN1 _ ?_
    try clear hN1 N1
    simp at h
    rw[if_neg (by omega)]at hres
    refine AW.seq (fun N1 hN1=> ?_)
    refine AW.sr envOk (fun N hN=> ?_)
    simp-dsimp-implicitDefEqProofs (disch:=omega) only[go_sem,undef,]
    refine hN _ ?_
    try clear hN N
    refine AW.block ?_
    refine AW.loop (α:=Nat×Int×Nat) (fun x=>⟨sl 27 [(0,rows a),(1,.i .i64 x.2.1),(5,.i .i64 x.1)],noH,x.2.2⟩)
      (fun x=>x.1≤a.length∧0≤x.2.1∧x.2.1≤1048576∧szGo szS (a.drop x.1) x.2.1=szSS a left∧nx≤x.2.2) (fun x=>a.length-x.1) (0,left-a.length,nx+1+5+2+1) ⟨by omega,by simpa using h,by simp;omega,by simp[hres],by simp;omega⟩ ?_ ?_
    · simp-dsimp-implicitDefEqProofs (disch:=omega) only[go_sem,undef]
      refine Wk.mk' (by simp[wks,wkA,ints,rows,cubes,]) ?_ (by first|omega|(dsimp only;omega))
      rfl
    · rintro⟨k,l,m⟩ ⟨hk,hl0,hl1,hl,hm⟩
      simp only at hk hl0 hl1 hl hm
      simp-dsimp-implicitDefEqProofs (disch:=omega) only[go_sem,undef]
      refine AW.seq (fun N2 hN2=> ?_)
      refine AW.sr envOk (fun N hN=> ?_)
      simp-dsimp-implicitDefEqProofs (disch:=omega) only[go_sem,undef,rows]
      refine hN _ ?_
      try clear hN N
      refine AW.cond rfl (fun h=> ?_) (fun h=> ?_)
      · refine AW.skip ?_
        simp only[thn,blk]
        refine hN2 _ ?_
        try clear hN2 N2
        have hk':k<a.length:=by simpa using h
        have hx:(a.getD k []).length≤9223372036854775807:=(ha2 _ (by simp[hk'])).1
        rw[szGo_step [] hk']at hl
        have hb:=szS_le (a.getD k []) l hl0
        refine AW.seq (fun N3 hN3=> ?_)
        refine AW.block ?_
        refine AW.sr envOk (fun N hN=> ?_)
        simp-dsimp-implicitDefEqProofs (disch:=omega) only[go_sem,undef,rows]
        refine AC.pure (.of (szS_ok (a.getD k []) l hl0 (by omega) hx)) ?_
        refine hN _ ?_
        try clear hN N
        refine AW.sr envOk (fun N hN=> ?_)
        simp-dsimp-implicitDefEqProofs (disch:=omega) only[go_sem,undef,]
        refine hN _ ?_
        try clear hN N
        refine AW.cond rfl (fun h3=> ?_) (fun h3=> ?_)
        · try simp only[cn]at h3
          rw[if_pos h3]at hl
          refine AW.sr envOk (fun N hN=> ?_)
          simp-dsimp-implicitDefEqProofs (disch:=omega) only[go_sem,undef,]
          refine hN _ ?_
          try clear hN N
          refine AW.ret ?_
          simp-dsimp-implicitDefEqProofs (disch:=omega) only[go_sem,undef]
          rw[hl]
        · try simp only[cn]at h3
          rw[if_neg (by omega)]at hl
          refine AW.skip ?_
          simp only[thn,blk]
          refine hN3 _ ?_
          try clear hN3 N3
          refine AW.regionL envOk ?_
          simp-dsimp-implicitDefEqProofs (disch:=omega) only[go_sem,undef,]
          rw[w64 (by omega) (by omega)]
          refine⟨(k+1,szS (a.getD k []) l,m+4+7+2+3),?_,⟨by simp only;omega,by simp only;omega,by simp only;omega,hl,by simp only;omega⟩,by simp only;omega⟩
          refine Wk.mk' (by simp[wks,wkA,ints,rows,cubes,]) ?_ (by first|omega|(dsimp only;omega))
          rfl
      · refine AW.exit ?_
        simp only[thn,blk,if_true]
        refine hN1 _ ?_
        try clear hN1 N1
        refine AW.sr envOk (fun N hN=> ?_)
        simp-dsimp-implicitDefEqProofs (disch:=omega) only[go_sem,undef,]
        refine hN _ ?_
        try clear hN N
        refine AW.ret ?_
        simp-dsimp-implicitDefEqProofs (disch:=omega) only[go_sem,undef]
        simp at h
        rw[List.drop_eq_nil_of_le (by omega)]at hl
        rw[←hl];rfl
open Nat (reduceAdd reduceSub reduceGT reduceEqDiff reduceMul)
theorem toS_ok (a:List Int) (ha:a.length≤1099511627776):ACo Tryz.prog 26 [ints a] (ints a):=by
  intro nx
  refine AC.intro' envOk Tryz.func26 rfl (by kernel_rfl) Tryz.ntmps26 Tryz.results26 ?_
  refine AW.sr envOk (fun N hN=> ?_)
  simp-dsimp-implicitDefEqProofs (disch:=omega) only[go_sem,undef,]
  refine hN _ ?_
  try clear hN N
  refine AW.sr envOk (fun N hN=> ?_)
  simp-dsimp-implicitDefEqProofs (disch:=omega) only[go_sem,undef,ints]
  refine hN _ ?_
  try clear hN N
  refine AW.seq (fun N1 hN1=> ?_)
  refine AW.sr envOk (fun N hN=> ?_)
  simp-dsimp-implicitDefEqProofs (disch:=omega) only[go_sem,undef,]
  refine hN _ ?_
  try clear hN N
  refine AW.block ?_
  refine AW.loop (α:=Nat×Nat) (fun x=>⟨sl 22 [(0,ints a),(3,.h (nx+1+2) 0 a.length),(4,.i .i64 x.1)],upd noH (nx+1+2) (some ((a.take x.1).map (.i .i64)++List.replicate (a.length-x.1) (.i .i64 0))),x.2⟩)
    (fun x=>x.1≤a.length∧nx+5≤x.2) (fun x=>a.length-x.1) (0,nx+1+4+1) ⟨by omega,by omega⟩ ?_ ?_
  · simp-dsimp-implicitDefEqProofs (disch:=omega) only[go_sem,undef]
    refine Wk.mk' (by simp[wks,wkA,ints,rows,cubes,]) ?_ (by first|omega|(dsimp only;omega))
    simp
  · rintro⟨k,m⟩ ⟨hk,hm⟩
    simp only at hk hm
    simp-dsimp-implicitDefEqProofs (disch:=omega) only[go_sem,undef]
    refine AW.seq (fun N2 hN2=> ?_)
    refine AW.sr envOk (fun N hN=> ?_)
    simp-dsimp-implicitDefEqProofs (disch:=omega) only[go_sem,undef,ints]
    refine hN _ ?_
    try clear hN N
    refine AW.cond rfl (fun h=> ?_) (fun h=> ?_)
    · refine AW.skip ?_
      simp only[thn,blk]
      refine hN2 _ ?_
      try clear hN2 N2
      have hk':k<a.length:=by simpa using h
      refine AW.seq (fun N hN=> ?_)
      refine AW.block ?_
      refine AW.regionL envOk ?_
      simp-dsimp-implicitDefEqProofs (disch:=omega) only[go_sem,undef,ints]
      refine hN _ ?_
      try clear hN N
      refine AW.regionL envOk ?_
      simp-dsimp-implicitDefEqProofs (disch:=omega) only[go_sem,undef,]
      refine⟨(k+1,m+4+8+3),?_,⟨by omega,by omega⟩,by omega⟩
      rw[w64 (by omega) (by omega)]
      refine Wk.mk' (by simp[wks,wkA,ints,rows,cubes,]) ?_ (by first|omega|(dsimp only;omega))
      rw[upd_upd,splice_fill (.i .i64) 0 (.i .i64 0) a hk']
    · refine AW.exit ?_
      simp only[thn,blk,if_true]
      refine hN1 _ ?_
      try clear hN1 N1
      refine AW.sr envOk (fun N hN=> ?_)
      simp-dsimp-implicitDefEqProofs (disch:=omega) only[go_sem,undef,]
      refine hN _ ?_
      try clear hN N
      refine AW.ret ?_
      simp-dsimp-implicitDefEqProofs (disch:=omega) only[go_sem,undef]
      have hk':k=a.length:=by simp at h;omega
      subst hk'
      exact⟨_,Own.ints (by simp) rfl (by omega) (by omega)⟩
theorem take_map {α:Type} (f:α→AV) (d:α) (xs:List α) {k:Nat} (h:k<xs.length):(xs.take (k+1)).map f=(xs.take k).map f++[f (xs.getD k d)]:=by
  rw[List.take_add_one,List.map_append]
  simp[h]
theorem toSS_ok (a:List (List Int)) (ha:a.length≤1099511627776) (hb:∀x∈a,x.length≤1099511627776):ACo Tryz.prog 25 [rows a] (rows a):=by
  intro nx
  refine AC.intro' envOk Tryz.func25 rfl (by kernel_rfl) Tryz.ntmps25 Tryz.results25 ?_
  refine AW.sr envOk (fun N hN=> ?_)
  simp-dsimp-implicitDefEqProofs (disch:=omega) only[go_sem,undef,]
  refine hN _ ?_
  try clear hN N
  refine AW.sr envOk (fun N hN=> ?_)
  simp-dsimp-implicitDefEqProofs (disch:=omega) only[go_sem,undef,rows]
  refine hN _ ?_
  try clear hN N
  refine AW.seq (fun N1 hN1=> ?_)
  refine AW.sr envOk (fun N hN=> ?_)
  simp-dsimp-implicitDefEqProofs (disch:=omega) only[go_sem,undef,]
  refine hN _ ?_
  try clear hN N
  refine AW.block ?_
  refine AW.loop (α:=Nat×List AV×HP×Nat) (fun x=>⟨sl 23 [(0,rows a),(3,.h (nx+1+2) 0 a.length),(4,.i .i64 x.1)],x.2.2.1,x.2.2.2⟩)
    (fun x=>nx+5≤x.2.2.2∧OL nx x.2.2.2 (nx+1+2) x.2.2.1 a.length .nl x.1 x.2.1 ((a.take x.1).map ints)) (fun x=>a.length-x.1) (0,[],upd noH (nx+1+2) (some (List.replicate a.length .nl)),nx+1+4+1) ⟨by simp only;omega,OL.start (by simp) (by omega) (by simp only;omega)⟩ ?_ ?_
  · simp-dsimp-implicitDefEqProofs (disch:=omega) only[go_sem,undef]
    refine Wk.mk' (by simp[wks,wkA,ints,rows,cubes,]) ?_ (by first|omega|(dsimp only;omega))
    simp
  · rintro⟨k,rs,H,m⟩ ⟨hm,hol⟩
    simp only at hm hol
    obtain⟨hH,hrs,hk,_,_⟩:=hol.cells
    simp-dsimp-implicitDefEqProofs (disch:=omega) only[go_sem,undef]
    refine AW.seq (fun N2 hN2=> ?_)
    refine AW.sr envOk (fun N hN=> ?_)
    simp-dsimp-implicitDefEqProofs (disch:=omega) only[go_sem,undef,rows]
    refine hN _ ?_
    try clear hN N
    refine AW.cond rfl (fun h=> ?_) (fun h=> ?_)
    · try simp only[cn]at h
      refine AW.skip ?_
      simp only[thn,blk]
      refine hN2 _ ?_
      try clear hN2 N2
      have hk':k<a.length:=by simpa using h
      have hx:(a.getD k []).length≤1099511627776:=hb _ (by simp[hk'])
      refine AW.seq (fun N3 hN3=> ?_)
      refine AW.block ?_
      refine AW.regionL envOk ?_
      simp-dsimp-implicitDefEqProofs (disch:=omega) only[go_sem,undef,rows]
      refine AC.own (toS_ok (a.getD k []) hx) (.cons (.refl _) .nil) ?_
      intro m' H' r ids hm' hH' hown
      obtain⟨c1,c2,c3⟩:=hown.1.slice
      have hid:H' (nx+1+2)=some (rs++List.replicate (a.length-k) .nl):=by rw[hH' _ (by omega),hH]
      try simp-dsimp-implicitDefEqProofs (disch:=omega) only[go_sem,undef,hid,c1,c2,c3,hrs]
      refine hN3 _ ?_
      try clear hN3 N3
      refine AW.regionL envOk ?_
      simp-dsimp-implicitDefEqProofs (disch:=omega) only[go_sem,undef,]
      refine⟨(k+1,rs++[r],upd H' (nx+1+2) (some (splice (rs++List.replicate (a.length-k) .nl) k [r])),m'+3),?_,⟨by simp only;omega,?_⟩,by simp only;omega⟩
      · rw[w64 (by omega) (by omega)]
        refine Wk.mk' (by simp[wks,wkA,ints,rows,cubes,]) ?_ (by first|omega|(dsimp only;omega))
        rfl
      · simp only
        rw[take_map ints [] a hk']
        exact(hol.step hk' hH' (by omega) (by omega) hown).more (by omega)
    · try simp only[cn]at h
      refine AW.exit ?_
      simp only[thn,blk,if_true]
      refine hN1 _ ?_
      try clear hN1 N1
      refine AW.sr envOk (fun N hN=> ?_)
      simp-dsimp-implicitDefEqProofs (disch:=omega) only[go_sem,undef,]
      refine hN _ ?_
      try clear hN N
      refine AW.ret ?_
      simp-dsimp-implicitDefEqProofs (disch:=omega) only[go_sem,undef]
      have hk':k=a.length:=by omega
      subst hk'
      rw[List.take_length]at hol
      exact(hol.more (by omega)).done
theorem toSSS_ok (a:List (List (List Int))) (ha:a.length≤1099511627776) (hb:∀x∈a,x.length≤1099511627776∧∀y∈x,y.length≤1099511627776):ACo Tryz.prog 27 [cubes a] (cubes a):=by
  intro nx
  refine AC.intro' envOk Tryz.func27 rfl (by kernel_rfl) Tryz.ntmps27 Tryz.results27 ?_
  refine AW.sr envOk (fun N hN=> ?_)
  simp-dsimp-implicitDefEqProofs (disch:=omega) only[go_sem,undef,]
  refine hN _ ?_
  try clear hN N
  refine AW.sr envOk (fun N hN=> ?_)
  simp-dsimp-implicitDefEqProofs (disch:=omega) only[go_sem,undef,cubes]
  refine hN _ ?_
  try clear hN N
  refine AW.seq (fun N1 hN1=> ?_)
  refine AW.sr envOk (fun N hN=> ?_)
  simp-dsimp-implicitDefEqProofs (disch:=omega) only[go_sem,undef,]
  refine hN _ ?_
  try clear hN N
  refine AW.block ?_
  refine AW.loop (α:=Nat×List AV×HP×Nat) (fun x=>⟨sl 23 [(0,cubes a),(3,.h (nx+1+2) 0 a.length),(4,.i .i64 x.1)],x.2.2.1,x.2.2.2⟩)
    (fun x=>nx+5≤x.2.2.2∧OL nx x.2.2.2 (nx+1+2) x.2.2.1 a.length .nl x.1 x.2.1 ((a.take x.1).map rows)) (fun x=>a.length-x.1) (0,[],upd noH (nx+1+2) (some (List.replicate a.length .nl)),nx+1+4+1) ⟨by simp only;omega,OL.start (by simp) (by omega) (by simp only;omega)⟩ ?_ ?_
  · simp-dsimp-implicitDefEqProofs (disch:=omega) only[go_sem,undef]
    refine Wk.mk' (by simp[wks,wkA,ints,rows,cubes,]) ?_ (by first|omega|(dsimp only;omega))
    simp
  · rintro⟨k,rs,H,m⟩ ⟨hm,hol⟩
    simp only at hm hol
    obtain⟨hH,hrs,hk,_,_⟩:=hol.cells
    simp-dsimp-implicitDefEqProofs (disch:=omega) only[go_sem,undef]
    refine AW.seq (fun N2 hN2=> ?_)
    refine AW.sr envOk (fun N hN=> ?_)
    simp-dsimp-implicitDefEqProofs (disch:=omega) only[go_sem,undef,cubes]
    refine hN _ ?_
    try clear hN N
    refine AW.cond rfl (fun h=> ?_) (fun h=> ?_)
    · try simp only[cn]at h
      refine AW.skip ?_
      simp only[thn,blk]
      refine hN2 _ ?_
      try clear hN2 N2
      have hk':k<a.length:=by simpa using h
      have hx:=hb (a.getD k []) (by simp[hk'])
      refine AW.seq (fun N3 hN3=> ?_)
      refine AW.block ?_
      refine AW.regionL envOk ?_
      simp-dsimp-implicitDefEqProofs (disch:=omega) only[go_sem,undef,cubes]
      refine AC.own (toSS_ok (a.getD k []) hx.1 hx.2) (.cons (.refl _) .nil) ?_
      intro m' H' r ids hm' hH' hown
      obtain⟨c1,c2,c3⟩:=hown.1.slice
      have hid:H' (nx+1+2)=some (rs++List.replicate (a.length-k) .nl):=by rw[hH' _ (by omega),hH]
      try simp-dsimp-implicitDefEqProofs (disch:=omega) only[go_sem,undef,hid,c1,c2,c3,hrs]
      refine hN3 _ ?_
      try clear hN3 N3
      refine AW.regionL envOk ?_
      simp-dsimp-implicitDefEqProofs (disch:=omega) only[go_sem,undef,]
      refine⟨(k+1,rs++[r],upd H' (nx+1+2) (some (splice (rs++List.replicate (a.length-k) .nl) k [r])),m'+3),?_,⟨by simp only;omega,?_⟩,by simp only;omega⟩
      · rw[w64 (by omega) (by omega)]
        refine Wk.mk' (by simp[wks,wkA,ints,rows,cubes,]) ?_ (by first|omega|(dsimp only;omega))
        rfl
      · simp only
        rw[take_map rows [] a hk']
        exact(hol.step hk' hH' (by omega) (by omega) hown).more (by omega)
    · try simp only[cn]at h
      refine AW.exit ?_
      simp only[thn,blk,if_true]
      refine hN1 _ ?_
      try clear hN1 N1
      refine AW.sr envOk (fun N hN=> ?_)
      simp-dsimp-implicitDefEqProofs (disch:=omega) only[go_sem,undef,]
      refine hN _ ?_
      try clear hN N
      refine AW.ret ?_
      simp-dsimp-implicitDefEqProofs (disch:=omega) only[go_sem,undef]
      have hk':k=a.length:=by omega
      subst hk'
      rw[List.take_length]at hol
      exact(hol.more (by omega)).done
open Nat (reduceAdd reduceSub reduceGT reduceEqDiff reduceMul)
theorem take_ext {α:Type} (d:α) {a b:List α} (hl:a.length=b.length) {k:Nat} (hk:k<a.length) (h:a.take k=b.take k) (he:a.getD k d=b.getD k d):a.take (k+1)=b.take (k+1):=by
  rw[List.take_add_one,List.take_add_one,h]
  congr 1
  simp[hk,show k<b.length by omega]at he
  simp[hk,show k<b.length by omega,he]
theorem laws_eqInt64S_ok (a b:List Int) (ha:a.length≤9223372036854775807) (hb:b.length≤9223372036854775807):ACp Tryz.prog 35 [ints a,ints b] (.b (decide (a=b))):=by
  refine ACp.intro' envOk Tryz.func35 rfl (by kernel_rfl) Tryz.ntmps35 Tryz.results35 (.b _) (fun nx=> ?_)
  refine AW.sr envOk (fun N hN=> ?_)
  simp-dsimp-implicitDefEqProofs (disch:=omega) only[go_sem,undef,]
  refine hN _ ?_
  try clear hN N
  refine AW.seq (fun N1 hN1=> ?_)
  refine AW.sr envOk (fun N hN=> ?_)
  simp-dsimp-implicitDefEqProofs (disch:=omega) only[go_sem,undef,ints]
  refine hN _ ?_
  try clear hN N
  refine AW.cond rfl (fun h1=> ?_) (fun h1=> ?_)
  · try simp only[cn]at h1
    refine AW.sr envOk (fun N hN=> ?_)
    simp-dsimp-implicitDefEqProofs (disch:=omega) only[go_sem,undef,]
    refine hN _ ?_
    try clear hN N
    refine AW.ret ?_
    simp-dsimp-implicitDefEqProofs (disch:=omega) only[go_sem,undef]
    have:a≠b:=fun e=>h1 (by rw[e])
    simp[this]
  · try simp only[cn]at h1
    have hl:a.length=b.length:=by omega
    refine AW.skip ?_
    simp only[thn,blk]
    refine hN1 _ ?_
    try clear hN1 N1
    refine AW.seq (fun N2 hN2=> ?_)
    refine AW.sr envOk (fun N hN=> ?_)
    simp-dsimp-implicitDefEqProofs (disch:=omega) only[go_sem,undef,]
    refine hN _ ?_
    try clear hN N
    refine AW.block ?_
    refine AW.loop (α:=Nat×Nat) (fun x=>⟨sl 26 [(0,ints a),(1,ints b),(5,.i .i64 x.1)],noH,x.2⟩)
      (fun x=>x.1≤a.length∧nx≤x.2∧a.take x.1=b.take x.1) (fun x=>a.length-x.1) (0,nx+1+5+1) ⟨by simp only;omega,by simp only;omega,rfl⟩ ?_ ?_
    · simp-dsimp-implicitDefEqProofs (disch:=omega) only[go_sem,undef]
      refine Wk.mk' (by simp[wks,wkA,ints,rows,cubes,]) ?_ (by first|omega|(dsimp only;omega))
      rfl
    · rintro⟨k,m⟩ ⟨hk,hm,he⟩
      simp only at hk hm he
      simp-dsimp-implicitDefEqProofs (disch:=omega) only[go_sem,undef]
      refine AW.seq (fun N3 hN3=> ?_)
      refine AW.sr envOk (fun N hN=> ?_)
      simp-dsimp-implicitDefEqProofs (disch:=omega) only[go_sem,undef,ints]
      refine hN _ ?_
      try clear hN N
      refine AW.cond rfl (fun h2=> ?_) (fun h2=> ?_)
      · try simp only[cn]at h2
        refine AW.skip ?_
        simp only[thn,blk]
        refine hN3 _ ?_
        try clear hN3 N3
        refine AW.seq (fun N4 hN4=> ?_)
        refine AW.block ?_
        refine AW.seq (fun N hN=> ?_)
        refine AW.drawL envOk (by kernel_rfl) 9 (by kernel_rfl) ?_
        simp-dsimp-implicitDefEqProofs (disch:=omega) only[hr_nil,hr_one,hr_if,List.take_succ_cons,List.take_zero,List.drop_succ_cons,List.drop_zero,List.take_nil,List.drop_nil,go_sem,undef,ints,gd_i]
        refine hN _ ?_
        try clear hN N
        refine AW.cond rfl (fun h3=> ?_) (fun h3=> ?_)
        · try simp only[cn]at h3
          refine AW.sr envOk (fun N hN=> ?_)
          simp-dsimp-implicitDefEqProofs (disch:=omega) only[go_sem,undef,]
          refine hN _ ?_
          try clear hN N
          refine AW.ret ?_
          simp-dsimp-implicitDefEqProofs (disch:=omega) only[go_sem,undef]
          have:a≠b:=fun e=>h3 (by rw[e])
          simp[this]
        · try simp only[cn]at h3
          refine AW.skip ?_
          simp only[thn,blk]
          refine hN4 _ ?_
          try clear hN4 N4
          refine AW.regionL envOk ?_
          simp-dsimp-implicitDefEqProofs (disch:=omega) only[go_sem,undef,]
          refine⟨(k+1,m+4+9+3),?_,⟨by simp only;omega,by simp only;omega,take_ext 0 hl (by omega) he h3⟩,by simp only;omega⟩
          rw[w64 (by omega) (by omega)]
          refine Wk.mk' (by simp[wks,wkA,ints,rows,cubes,]) ?_ (by first|omega|(dsimp only;omega))
          rfl
      · try simp only[cn]at h2
        refine AW.exit ?_
        simp only[thn,blk,if_true]
        refine hN2 _ ?_
        try clear hN2 N2
        refine AW.sr envOk (fun N hN=> ?_)
        simp-dsimp-implicitDefEqProofs (disch:=omega) only[go_sem,undef,]
        refine hN _ ?_
        try clear hN N
        refine AW.ret ?_
        simp-dsimp-implicitDefEqProofs (disch:=omega) only[go_sem,undef]
        have hk':k=a.length:=by omega
        subst hk'
        rw[List.take_length,hl,List.take_length]at he
        simp[he]
theorem laws_eqInt64SS_ok (a b:List (List Int)) (ha:rowsok a) (hb:rowsok b):ACp Tryz.prog 34 [rows a,rows b] (.b (decide (a=b))):=by
  obtain⟨ha1,ha2⟩:=ha
  obtain⟨hb1,hb2⟩:=hb
  refine ACp.intro' envOk Tryz.func34 rfl (by kernel_rfl) Tryz.ntmps34 Tryz.results34 (.b _) (fun nx=> ?_)
  refine AW.sr envOk (fun N hN=> ?_)
  simp-dsimp-implicitDefEqProofs (disch:=omega) only[go_sem,undef,]
  refine hN _ ?_
  try clear hN N
  refine AW.seq (fun N1 hN1=> ?_)
  refine AW.sr envOk (fun N hN=> ?_)
  simp-dsimp-implicitDefEqProofs (disch:=omega) only[go_sem,undef,rows]
  refine hN _ ?_
  try clear hN N
  refine AW.cond rfl (fun h1=> ?_) (fun h1=> ?_)
  · try simp only[cn]at h1
    refine AW.sr envOk (fun N hN=> ?_)
    simp-dsimp-implicitDefEqProofs (disch:=omega) only[go_sem,undef,]
    refine hN _ ?_
    try clear hN N
    refine AW.ret ?_
    simp-dsimp-implicitDefEqProofs (disch:=omega) only[go_sem,undef]
    have:a≠b:=fun e=>h1 (by rw[e])
    simp[this]
  · try simp only[cn]at h1
    have hl:a.length=b.length:=by omega
    refine AW.skip ?_
    simp only[thn,blk]
    refine hN1 _ ?_
    try clear hN1 N1
    refine AW.seq (fun N2 hN2=> ?_)
    refine AW.sr envOk (fun N hN=> ?_)
    simp-dsimp-implicitDefEqProofs (disch:=omega) only[go_sem,undef,]
    refine hN _ ?_
    try clear hN N
    refine AW.block ?_
    refine AW.loop (α:=Nat×Nat) (fun x=>⟨sl 27 [(0,rows a),(1,rows b),(5,.i .i64 x.1)],noH,x.2⟩)
      (fun x=>x.1≤a.length∧nx≤x.2∧a.take x.1=b.take x.1) (fun x=>a.length-x.1) (0,nx+1+5+1) ⟨by simp only;omega,by simp only;omega,rfl⟩ ?_ ?_
    · simp-dsimp-implicitDefEqProofs (disch:=omega) only[go_sem,undef]
      refine Wk.mk' (by simp[wks,wkA,ints,rows,cubes,]) ?_ (by first|omega|(dsimp only;omega))
      rfl
    · rintro⟨k,m⟩ ⟨hk,hm,he⟩
      simp only at hk hm he
      simp-dsimp-implicitDefEqProofs (disch:=omega) only[go_sem,undef]
      refine AW.seq (fun N3 hN3=> ?_)
      refine AW.sr envOk (fun N hN=> ?_)
      simp-dsimp-implicitDefEqProofs (disch:=omega) only[go_sem,undef,rows]
      refine hN _ ?_
      try clear hN N
      refine AW.cond rfl (fun h2=> ?_) (fun h2=> ?_)
      · try simp only[cn]at h2
        refine AW.skip ?_
        simp only[thn,blk]
        refine hN3 _ ?_
        try clear hN3 N3
        refine AW.seq (fun N4 hN4=> ?_)
        refine AW.block ?_
        have hx:=ha2 (a.getD k []) (by simp[show k<a.length by omega])
        have hy:=hb2 (b.getD k []) (by simp[show k<b.length by omega])
        refine AW.seq (fun N hN=> ?_)
        refine AW.drawL envOk (by kernel_rfl) 10 (by kernel_rfl) ?_
        simp-dsimp-implicitDefEqProofs (disch:=omega) only[hr_nil,hr_one,hr_if,List.take_succ_cons,List.take_zero,List.drop_succ_cons,List.drop_zero,List.take_nil,List.drop_nil,go_sem,undef,rows,gd_r]
        refine⟨_,.of (laws_eqInt64S_ok (a.getD k []) (b.getD k []) hx.1 hy.1),?_⟩
        try simp-dsimp-implicitDefEqProofs (disch:=omega) only[go_sem,undef,]
        refine hN _ ?_
        try clear hN N
        refine AW.cond rfl (fun h3=> ?_) (fun h3=> ?_)
        · try simp only[cn]at h3
          refine AW.sr envOk (fun N hN=> ?_)
          simp-dsimp-implicitDefEqProofs (disch:=omega) only[go_sem,undef,]
          refine hN _ ?_
          try clear hN N
          refine AW.ret ?_
          simp-dsimp-implicitDefEqProofs (disch:=omega) only[go_sem,undef]
          have:a≠b:=fun e=>by simp[e]at h3
          simp[this]
        · try simp only[cn]at h3
          refine AW.skip ?_
          simp only[thn,blk]
          refine hN4 _ ?_
          try clear hN4 N4
          refine AW.regionL envOk ?_
          simp-dsimp-implicitDefEqProofs (disch:=omega) only[go_sem,undef,]
          refine⟨(k+1,m+4+10+3),?_,⟨by simp only;omega,by simp only;omega,take_ext [] hl (by omega) he (by simpa using h3)⟩,by simp only;omega⟩
          rw[w64 (by omega) (by omega)]
          refine Wk.mk' (by simp[wks,wkA,ints,rows,cubes,]) ?_ (by first|omega|(dsimp only;omega))
          rfl
      · try simp only[cn]at h2
        refine AW.exit ?_
        simp only[thn,blk,if_true]
        refine hN2 _ ?_
        try clear hN2 N2
        refine AW.sr envOk (fun N hN=> ?_)
        simp-dsimp-implicitDefEqProofs (disch:=omega) only[go_sem,undef,]
        refine hN _ ?_
        try clear hN N
        refine AW.ret ?_
        simp-dsimp-implicitDefEqProofs (disch:=omega) only[go_sem,undef]
        have hk':k=a.length:=by omega
        subst hk'
        rw[List.take_length,hl,List.take_length]at he
        simp[he]
theorem laws_eqInt64SSS_ok (a b:List (List (List Int))) (ha:cubesok a) (hb:cubesok b):ACp Tryz.prog 36 [cubes a,cubes b] (.b (decide (a=b))):=by
  obtain⟨ha1,ha2⟩:=ha
  obtain⟨hb1,hb2⟩:=hb
  refine ACp.intro' envOk Tryz.func36 rfl (by kernel_rfl) Tryz.ntmps36 Tryz.results36 (.b _) (fun nx=> ?_)
  refine AW.sr envOk (fun N hN=> ?_)
  simp-dsimp-implicitDefEqProofs (disch:=omega) only[go_sem,undef,]
  refine hN _ ?_
  try clear hN N
  refine AW.seq (fun N1 hN1=> ?_)
  refine AW.sr envOk (fun N hN=> ?_)
  simp-dsimp-implicitDefEqProofs (disch:=omega) only[go_sem,undef,cubes]
  refine hN _ ?_
  try clear hN N
  refine AW.cond rfl (fun h1=> ?_) (fun h1=> ?_)
  · try simp only[cn]at h1
    refine AW.sr envOk (fun N hN=> ?_)
    simp-dsimp-implicitDefEqProofs (disch:=omega) only[go_sem,undef,]
    refine hN _ ?_
    try clear hN N
    refine AW.ret ?_
    simp-dsimp-implicitDefEqProofs (disch:=omega) only[go_sem,undef]
    have:a≠b:=fun e=>h1 (by rw[e])
    simp[this]
  · try simp only[cn]at h1
    have hl:a.length=b.length:=by omega
    refine AW.skip ?_
    simp only[thn,blk]
    refine hN1 _ ?_
    try clear hN1 N1
    refine AW.seq (fun N2 hN2=> ?_)
    refine AW.sr envOk (fun N hN=> ?_)
    simp-dsimp-implicitDefEqProofs (disch:=omega) only[go_sem,undef,]
    refine hN _ ?_
    try clear hN N
    refine AW.block ?_
    refine AW.loop (α:=Nat×Nat) (fun x=>⟨sl 27 [(0,cubes a),(1,cubes b),(5,.i .i64 x.1)],noH,x.2⟩)
      (fun x=>x.1≤a.length∧nx≤x.2∧a.take x.1=b.take x.1) (fun x=>a.length-x.1) (0,nx+1+5+1) ⟨by simp only;omega,by simp only;omega,rfl⟩ ?_ ?_
    · simp-dsimp-implicitDefEqProofs (disch:=omega) only[go_sem,undef]
      refine Wk.mk' (by simp[wks,wkA,ints,rows,cubes,]) ?_ (by first|omega|(dsimp only;omega))
      rfl
    · rintro⟨k,m⟩ ⟨hk,hm,he⟩
      simp only at hk hm he
      simp-dsimp-implicitDefEqProofs (disch:=omega) only[go_sem,undef]
      refine AW.seq (fun N3 hN3=> ?_)
      refine AW.sr envOk (fun N hN=> ?_)
      simp-dsimp-implicitDefEqProofs (disch:=omega) only[go_sem,undef,cubes]
      refine hN _ ?_
      try clear hN N
      refine AW.cond rfl (fun h2=> ?_) (fun h2=> ?_)
      · try simp only[cn]at h2
        refine AW.skip ?_
        simp only[thn,blk]
        refine hN3 _ ?_
        try clear hN3 N3
        refine AW.seq (fun N4 hN4=> ?_)
        refine AW.block ?_
        have hx:=ha2 (a.getD k []) (by simp[show k<a.length by omega])
        have hy:=hb2 (b.getD k []) (by simp[show k<b.length by omega])
        refine AW.seq (fun N hN=> ?_)
        refine AW.drawL envOk (by kernel_rfl) 10 (by kernel_rfl) ?_
        simp-dsimp-implicitDefEqProofs (disch:=omega) only[hr_nil,hr_one,hr_if,List.take_succ_cons,List.take_zero,List.drop_succ_cons,List.drop_zero,List.take_nil,List.drop_nil,go_sem,undef,cubes,gd_c]
        refine⟨_,.of (laws_eqInt64SS_ok (a.getD k []) (b.getD k []) hx hy),?_⟩
        try simp-dsimp-implicitDefEqProofs (disch:=omega) only[go_sem,undef,]
        refine hN _ ?_
        try clear hN N
        refine AW.cond rfl (fun h3=> ?_) (fun h3=> ?_)
        · try simp only[cn]at h3
          refine AW.sr envOk (fun N hN=> ?_)
          simp-dsimp-implicitDefEqProofs (disch:=omega) only[go_sem,undef,]
          refine hN _ ?_
          try clear hN N
          refine AW.ret ?_
          simp-dsimp-implicitDefEqProofs (disch:=omega) only[go_sem,undef]
          have:a≠b:=fun e=>by simp[e]at h3
          simp[this]
        · try simp only[cn]at h3
          refine AW.skip ?_
          simp only[thn,blk]
          refine hN4 _ ?_
          try clear hN4 N4
          refine AW.regionL envOk ?_
          simp-dsimp-implicitDefEqProofs (disch:=omega) only[go_sem,undef,]
          refine⟨(k+1,m+4+10+3),?_,⟨by simp only;omega,by simp only;omega,take_ext [] hl (by omega) he (by simpa using h3)⟩,by simp only;omega⟩
          rw[w64 (by omega) (by omega)]
          refine Wk.mk' (by simp[wks,wkA,ints,rows,cubes,]) ?_ (by first|omega|(dsimp only;omega))
          rfl
      · try simp only[cn]at h2
        refine AW.exit ?_
        simp only[thn,blk,if_true]
        refine hN2 _ ?_
        try clear hN2 N2
        refine AW.sr envOk (fun N hN=> ?_)
        simp-dsimp-implicitDefEqProofs (disch:=omega) only[go_sem,undef,]
        refine hN _ ?_
        try clear hN N
        refine AW.ret ?_
        simp-dsimp-implicitDefEqProofs (disch:=omega) only[go_sem,undef]
        have hk':k=a.length:=by omega
        subst hk'
        rw[List.take_length,hl,List.take_length]at he
        simp[he]
end Go.Proofs.YtnlfbimjcabgiaaGreat
