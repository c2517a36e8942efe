import Derived.Test.YtnlfbimjcabgiaaGreatZ19
set_option linter.unusedVariables false
set_option linter.unusedSimpArgs false
namespace Go.Proofs.YtnlfbimjcabgiaaGreat
open Nat (reduceAdd reduceSub reduceGT reduceEqDiff reduceMul)
theorem spec_l08Fault_ok (os:List Int) (pw:List (List Int)) (cj:List (List (List Int))) (h:presOk os pw cj) (nx:Nat) (H:HP):AC Tryz.prog 130 nx H [prs os pw cj] (fun nx' H' r=>H'=H∧FO (Con (pc os pw cj) 0) r):=by
 have hv:=h.val
 have hn6:=h.1.1
 refine AC.introx envOk Tryz.func130 rfl (by kernel_rfl) Tryz.ntmps130 Tryz.results130 (fun hfr=> ?_)
 refine AW.sr envOk (fun N hN=> ?_)
 simp-dsimp-implicitDefEqProofs (disch:=omega) only[go_sem,undef,prs,prsP,ints,rows,cubes,w64]
 refine hN _ ?_
 try clear hN N
 refine AW.seq (fun N1 hN1=> ?_)
 refine AW.freezeQ 1 nx _ rfl ((upd_ne _ _ (by omega)).trans (upd_same _ _ _)) ?_
 simp-dsimp-implicitDefEqProofs (disch:=omega) only[go_sem,undef]
 refine AW.sr envOk (fun N hN=> ?_)
 simp-dsimp-implicitDefEqProofs (disch:=omega) only[go_sem,undef,prs,prsP,ints,rows,cubes,w64]
 refine hN _ ?_
 try clear hN N
 refine AW.block ?_
 refine AW.loopN (α:=Nat) (fun x=>sl 21 [(1,prsP os pw cj),(2,.q (nx+1) 0),(3,.i .i64 ((x:Int)-1))]) (fun _=>upd H (nx+1) (some [.i .i64 0,.i .i64 0,.i .i64 0,.i .i64 0])) (fun x m=>(x≤os.length∧nx+2≤m)∧Con (pc os pw cj) x) (fun x=>x) (os.length) ?_ ?_ (by have:=hfr nx (Nat.le_refl _);intro d cs hd;simp only[upd]at hd ⊢;grind) ?_
 ·exact⟨⟨Nat.le_refl _,by first|omega|(simp only;omega)|(dsimp only;omega)⟩,fun i h1 h2=>absurd h2 (by have:(pc os pw cj).n=os.length:=rfl;omega)⟩
 ·simp(disch:=omega) [wks,wkA,sl,prsP,ints,rows,cubes]
 ·skip
  rintro x m ⟨⟨hx,hm⟩,hI⟩
  simp only[prsP]
  simp-dsimp-implicitDefEqProofs (disch:=omega) only[go_sem,undef]
  refine AW.seq (fun N2 hN2=> ?_)
  refine AW.sr envOk (fun N hN=> ?_)
  simp-dsimp-implicitDefEqProofs (disch:=omega) only[go_sem,undef,prs,prsP,ints,rows,cubes,w64]
  refine hN _ ?_
  try clear hN N
  refine AW.cond rfl (fun h1=> ?_) (fun h1=> ?_)
  ·try simp only[cn]at h1
   obtain⟨i,rfl⟩:∃i,x=i+1:=⟨x-1,by omega⟩
   rw[show((i+1:Nat):Int)-1=i by omega]
   refine AW.skip ?_
   simp only[thn,blk]
   refine hN2 _ ?_
   try clear hN2 N2
   refine AW.seq (fun N3 hN3=> ?_)
   refine AW.block ?_
   refine AW.sr envOk (fun N hN=> ?_)
   simp-dsimp-implicitDefEqProofs (disch:=omega) only[go_sem,undef,prs,prsP,ints,rows,cubes,w64]
   refine(spec_l08Level_ok os pw cj h i (by omega) (con_grp hv hI) _ _).mono2 ?_
   rintro nx1 H1 r1 hx1 ⟨rfl,k,l,a,b,rfl,hk⟩
   try simp-dsimp-implicitDefEqProofs (disch:=omega) only[go_sem,undef,prs,prsP,ints,rows,cubes,w64]
   refine hN _ ?_
   try clear hN N
   refine AW.sr envOk (fun N hN=> ?_)
   simp-dsimp-implicitDefEqProofs (disch:=omega) only[go_sem,undef,prs,prsP,ints,rows,cubes,w64]
   refine hN _ ?_
   try clear hN N
   refine AW.cond rfl (fun h2=> ?_) (fun h2=> ?_)
   ·try simp only[cn]at h2
    refine AW.sr envOk (fun N hN=> ?_)
    simp-dsimp-implicitDefEqProofs (disch:=omega) only[go_sem,undef,prs,prsP,ints,rows,cubes,w64]
    refine hN _ ?_
    try clear hN N
    refine AW.ret ?_
    simp-dsimp-implicitDefEqProofs (disch:=omega) only[go_sem,undef]
    refine⟨H,by have q1:=hfr (nx+1) (by omega);have q2:=hfr (m+2+3) (by omega);intro d cs hd;simp only[upd];grind,rfl,FO.bad h2 (fun q=>h2 (hk.2 (q i (Nat.zero_le _) (show i<os.length by omega))))⟩
   ·try simp only[cn]at h2
    refine AW.skip ?_
    simp only[thn,blk]
    refine hN3 _ ?_
    try clear hN3 N3
    refine AW.regionL envOk ?_
    simp-dsimp-implicitDefEqProofs (disch:=omega) only[go_sem,undef,prs,prsP,ints,rows,cubes,w64]
    refine⟨i,?_,by have q1:=hfr (nx+1) (by omega);have q2:=hfr (m+2+3) (by omega);intro d cs hd;simp only[upd]at hd ⊢;grind,?_,?_⟩
    ·simp(disch:=omega) [wks,wkA,sl,w64,ints,rows,cubes,prs,prsP,ints,rows,cubes,w64]<;>omega
    ·refine⟨⟨by first|omega|(simp only;omega)|(dsimp only;omega),by first|omega|(simp only;omega)|(dsimp only;omega)⟩,fun t q1 q2=> ?_⟩
     by_cases e:t=i
     ·subst e;exact hk.1 h2
     ·exact hI t (by omega) q2
    ·first|omega|(simp only;omega)
  ·try simp only[cn]at h1
   refine AW.exit ?_
   simp only[thn,blk,if_true]
   refine hN1 _ ?_
   try clear hN1 N1
   refine AW.sr envOk (fun N hN=> ?_)
   simp-dsimp-implicitDefEqProofs (disch:=omega) only[go_sem,undef,prs,prsP,ints,rows,cubes,w64]
   refine hN _ ?_
   try clear hN N
   refine AW.ret ?_
   simp-dsimp-implicitDefEqProofs (disch:=omega) only[go_sem,undef]
   obtain rfl:x=0:=by omega
   exact⟨H,by have q1:=hfr (nx+1) (by omega);intro d cs hd;simp only[upd];grind,rfl,FO.good hI⟩
theorem spec_l08Consistent_ok (os:List Int) (pw:List (List Int)) (cj:List (List (List Int))) (h:presOk os pw cj):ACp Tryz.prog 89 [prs os pw cj] (.b (tf (Con (pc os pw cj) 0))):=by
 refine ACp.intro' envOk Tryz.func89 rfl (by kernel_rfl) Tryz.ntmps89 Tryz.results89 (.b _) (fun nx=> ?_)
 refine AW.sr envOk (fun N hN=> ?_)
 simp-dsimp-implicitDefEqProofs (disch:=omega) only[go_sem,undef,prs,prsP,ints,rows,cubes,w64]
 refine hN _ ?_
 try clear hN N
 refine AW.sr envOk (fun N hN=> ?_)
 simp-dsimp-implicitDefEqProofs (disch:=omega) only[go_sem,undef,prs,prsP,ints,rows,cubes,w64]
 refine(spec_l08Fault_ok os pw cj h _ _).mono2 ?_
 rintro nx1 H1 r1 hx1 ⟨rfl,k,l,a,b,rfl,hk⟩
 try simp-dsimp-implicitDefEqProofs (disch:=omega) only[go_sem,undef,prs,prsP,ints,rows,cubes,w64]
 refine hN _ ?_
 try clear hN N
 refine AW.ret ?_
 simp-dsimp-implicitDefEqProofs (disch:=omega) only[go_sem,undef]
 exact bt (by rw[←tf_eq hk];by_cases q:k=0<;>simp[q,tf])
theorem spec_l08Group_ok (os:List Int) (pw:List (List Int)) (cj:List (List (List Int))) (hl:prlen os pw cj):ACp Tryz.prog 50 [prs os pw cj] (.b (tf (presOk os pw cj∧Con (pc os pw cj) 0))):=by
 refine ACp.intro' envOk Tryz.func50 rfl (by kernel_rfl) Tryz.ntmps50 Tryz.results50 (.b _) (fun nx=> ?_)
 refine AW.sr envOk (fun N hN=> ?_)
 simp-dsimp-implicitDefEqProofs (disch:=omega) only[go_sem,undef,prs,ints,rows,cubes]
 refine hN _ ?_
 try clear hN N
 refine AW.sr envOk (fun N hN=> ?_)
 simp-dsimp-implicitDefEqProofs (disch:=omega) only[go_sem,undef,prs,ints,rows,cubes]
 refine AC.pure (.of (spec_IsPresentation_ok os pw cj hl)) ?_
 try simp-dsimp-implicitDefEqProofs (disch:=omega) only[go_sem,undef,prs,ints,rows,cubes]
 refine gopB.mk' (fun h1=> ?_) (fun h1=> ?_)
 ·try simp only[cn]at h1
  try simp-dsimp-implicitDefEqProofs (disch:=omega) only[go_sem,undef,prs,ints,rows,cubes]
  refine AC.pure (.of (spec_l08Consistent_ok os pw cj h1)) ?_
  try simp-dsimp-implicitDefEqProofs (disch:=omega) only[go_sem,undef,prs,ints,rows,cubes]
  refine hN _ ?_
  try clear hN N
  refine AW.ret ?_
  simp-dsimp-implicitDefEqProofs (disch:=omega) only[go_sem,undef]
  all_goals exact bt (tf_eq ⟨fun q=>⟨h1,q⟩,fun q=>q.2⟩)
 ·try simp only[cn]at h1
  try simp-dsimp-implicitDefEqProofs (disch:=omega) only[go_sem,undef,prs,ints,rows,cubes]
  refine hN _ ?_
  try clear hN N
  refine AW.ret ?_
  simp-dsimp-implicitDefEqProofs (disch:=omega) only[go_sem,undef]
  all_goals exact bt (tf_f (fun q=>h1 q.1)).symm
end Go.Proofs.YtnlfbimjcabgiaaGreat
