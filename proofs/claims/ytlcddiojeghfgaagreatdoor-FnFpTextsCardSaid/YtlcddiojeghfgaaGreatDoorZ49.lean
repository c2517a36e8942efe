import Derived.Test.YtlcddiojeghfgaaGreatDoorZ48
set_option linter.unusedVariables false
set_option linter.unusedSimpArgs false
namespace Go.Proofs.YtlcddiojeghfgaaGreatDoor
open Nat (reduceAdd reduceSub reduceGT reduceEqDiff reduceMul)
theorem fzh_refl {H:HP}:FzH H H:=fun id cs' h=>⟨cs',h,rfl,fun k x y h1 h2=>by rw[h1]at h2;cases h2;exact .refl _⟩
theorem mkW {N:St→Prop} {C:Nat→HP→List Int→Int→Prop} {S:Nat→HP→List Int→Int→St} {G:Prop} (h1:(∀m H w x,C m H w x→N (S m H w x))→G) (h2:∀m H w x,C m H w x→N (S m H w x)):G:=h1 h2
theorem mkV {N:St→Prop} {C:Nat→HP→List Int→AV→Int→Prop} {S:Nat→HP→List Int→AV→Int→St} {G:Prop} (h1:(∀m H w z x,C m H w z x→N (S m H w z x))→G) (h2:∀m H w z x,C m H w z x→N (S m H w z x)):G:=h1 h2
theorem one_two:(∀z∈ [AV.i .i64 1,AV.i .i64 2],one z=true)=True:=eq_true (by simp[one])
set_option maxRecDepth 20000 in
set_option maxHeartbeats 8000000 in
theorem spec_l27Draw_o {bs:List Int} {sid:Nat} {H:HP} (hg:srcOk bs sid H) (nx:Nat) (hsn:sid<nx):AC Tryz.prog 22 nx H [.q sid 0] (fun nx' H' r=>∃H2 r2,FzH H' H2∧Fz H' H2 r r2∧fpL nx nx' H2 r2∧srcOk bs sid H2∧∀i,i<nx→i≠sid→H2 i=H i):=by
 refine AC.introx envOk Tryz.func22 rfl (by kernel_rfl) Tryz.ntmps22 Tryz.results22 (fun hfr cX=> ?_)
 refine AW.sr envOk (fun N hN=> ?_)
 simp-dsimp-implicitDefEqProofs (disch:=(first|omega|((repeat refine LC.upd (by omega) ?_);assumption))) only[go_sem,undef,w64]
 refine hN _ ?_
 try clear hN N
 refine AW.seq (fun N1 hN1=> ?_)
 refine AW.nameH (fun G0 hG0=> ?_)
 dsimp only at hG0
 have hl:∀i,i<nx→i≠sid→G0 i=H i:=fun i hi _=>by rw[←hG0,upd_ne _ _ (by omega)]
 have h0:G0 nx=some [.i .i64 0,.nl]:=by rw[←hG0,upd_same]
 replace hg:srcOk bs sid G0:=hg.keep (by rw[←hG0,upd_ne _ _ (by omega)])
 clear hG0
 simp-dsimp-implicitDefEqProofs (disch:=(first|omega|((repeat refine LC.upd (by omega) ?_);assumption))) only[go_sem,undef]
 refine AW.sr envOk (fun N hN=> ?_)
 simp-dsimp-implicitDefEqProofs (disch:=(first|omega|((repeat refine LC.upd (by omega) ?_);assumption))) only[go_sem,undef,w64]
 refine(spec_l01Next_s (hg.keep (by first|rfl|(simp(disch:=omega) only[upd_ne]))) 6 (by omega) _).mono2 ?_
 rintro m1 H1 r1 hm1 ⟨⟨x1,rfl,hx1⟩,hg1,hk1⟩
 replace hl:∀i,i<nx→i≠sid→H1 i=H i:=fun i hi hne=>(hk1 i (by omega) hne).trans (by first|exact hl i hi hne|(simp(disch:=omega) only[upd_ne];exact hl i hi hne))
 replace h0:H1 nx=some [.i .i64 0,.nl]:=(hk1 nx (by omega) (by omega)).trans (by first|exact h0|(simp(disch:=omega) only[upd_ne];exact h0))
 replace hg:=hg1
 try simp-dsimp-implicitDefEqProofs (disch:=(first|omega|((repeat refine LC.upd (by omega) ?_);assumption))) only[go_sem,undef,w64]
 refine hN _ ?_
 try clear hN N
 refine AW.block ?_
 refine AW.sr envOk (fun N hN=> ?_)
 simp-dsimp-implicitDefEqProofs (disch:=(first|omega|((repeat refine LC.upd (by omega) ?_);assumption))) only[go_sem,undef,w64]
 refine hN _ ?_
 try clear hN N
 refine AW.cond rfl (fun h1=> ?_) (fun h1=> ?_)
 ·try simp only[cn]at h1
  refine AW.sr envOk (fun N hN=> ?_)
  simp-dsimp-implicitDefEqProofs (disch:=(first|omega|((repeat refine LC.upd (by omega) ?_);assumption))) only[go_sem,undef,w64]
  refine(spec_l07Group_s hg 27 _ (by omega)).mono2 ?_
  rintro m2 H2 r2 hm2 ⟨⟨os,X,Y,rfl,hpo⟩,hg2,hk2⟩
  try simp-dsimp-implicitDefEqProofs (disch:=(first|omega|((repeat refine LC.upd (by omega) ?_);assumption))) only[go_sem,undef,w64]
  refine(AC.frame (spec_FpOfPresentation_n os X Y hpo _)).mono2 ?_
  rintro m3 H3 r3 hm3 ⟨G3,⟨r1,e3,rfl,g3,L3,W3,rfl,hL3,hW3,hg3b⟩,hlow3,hhigh3⟩
  replace hL3:=hL3.keep (H':=H3) (fun i h1 h2=>hhigh3 i h1)
  have hLo3:=hL3.one
  have hLc3:=hL3.cells
  replace hl:∀i,i<nx→i≠sid→H3 i=H i:=fun i hi hne=>(hlow3 i (by omega)).trans ((hk2 i (by omega) hne).trans (hl i hi hne))
  replace h0:H3 nx=some [.i .i64 0,.nl]:=(hlow3 nx (by omega)).trans ((hk2 nx (by omega) (by omega)).trans h0)
  replace hg:srcOk bs sid H3:=hg2.keep (hlow3 sid (by omega))
  try simp-dsimp-implicitDefEqProofs (disch:=(first|omega|((repeat refine LC.upd (by omega) ?_);assumption))) only[go_sem,undef,w64,prs,hLo3,hLc3,Bool.and_true]
  refine hN _ ?_
  try clear hN N
  refine AW.sr envOk (fun N hN=> ?_)
  simp-dsimp-implicitDefEqProofs (disch:=(first|omega|((repeat refine LC.upd (by omega) ?_);assumption))) only[go_sem,undef,w64]
  refine hN _ ?_
  try clear hN N
  refine AW.cond rfl (fun h2=> ?_) (fun h2=> ?_)
  ·try simp only[cn]at h2
   refine AW.sr envOk (fun N hN=> ?_)
   simp-dsimp-implicitDefEqProofs (disch:=(first|omega|((repeat refine LC.upd (by omega) ?_);assumption))) only[go_sem,undef,w64,h0,hLo3,hLc3,Bool.and_true]
   refine hN _ ?_
   try clear hN N
   refine AW.ret ?_
   simp-dsimp-implicitDefEqProofs (disch:=(first|omega|((repeat refine LC.upd (by omega) ?_);assumption))) only[go_sem,undef]
   exact⟨_,fun _ _ h=>h,_,_,fzh_refl,.refl _,⟨g3,L3,W3,rfl,(LC.upd (by omega) (LC.upd (by omega) hL3)).wide (by omega) (by omega),hW3,hg3b⟩,hg.keep (by simp(disch:=omega) only[upd_ne]),fun i hi hne=>by simp(disch:=omega) only[upd_ne];exact hl i hi hne⟩
  ·try simp only[cn]at h2
   refine AW.skip ?_
   simp only[thn,blk]
   refine hN1 _ ?_
   try clear hN1 N1
   refine AW.sr envOk (fun N hN=> ?_)
   simp-dsimp-implicitDefEqProofs (disch:=(first|omega|((repeat refine LC.upd (by omega) ?_);assumption))) only[go_sem,undef,w64]
   refine(spec_l01Next_s (hg.keep (by first|rfl|(simp(disch:=omega) only[upd_ne]))) 2 (by omega) _).mono2 ?_
   rintro ma Ha ra hma ⟨⟨xa,rfl,hxa⟩,hga,hka⟩
   replace hl:∀i,i<nx→i≠sid→Ha i=H i:=fun i hi hne=>(hka i (by omega) hne).trans (by first|exact hl i hi hne|(simp(disch:=omega) only[upd_ne];exact hl i hi hne))
   replace h0:Ha nx=some [.i .i64 0,.nl]:=(hka nx (by omega) (by omega)).trans (by first|exact h0|(simp(disch:=omega) only[upd_ne];exact h0))
   replace hg:=hga
   try simp-dsimp-implicitDefEqProofs (disch:=(first|omega|((repeat refine LC.upd (by omega) ?_);assumption))) only[go_sem,undef,w64]
   refine hN _ ?_
   try clear hN N
   refine AW.seq (fun N2 hN2=> ?_)
   refine AW.sr envOk (fun N hN=> ?_)
   simp-dsimp-implicitDefEqProofs (disch:=(first|omega|((repeat refine LC.upd (by omega) ?_);assumption))) only[go_sem,undef,w64]
   refine(spec_l01Next_s (hg.keep (by first|rfl|(simp(disch:=omega) only[upd_ne]))) 5 (by omega) _).mono2 ?_
   rintro mb Hb rb hmb ⟨⟨xb,rfl,hxb⟩,hgb,hkb⟩
   replace hl:∀i,i<nx→i≠sid→Hb i=H i:=fun i hi hne=>(hkb i (by omega) hne).trans (by first|exact hl i hi hne|(simp(disch:=omega) only[upd_ne];exact hl i hi hne))
   replace h0:Hb nx=some [.i .i64 0,.nl]:=(hkb nx (by omega) (by omega)).trans (by first|exact h0|(simp(disch:=omega) only[upd_ne];exact h0))
   have hbb:Hb (m3+2+4)=some [.i .i64 (1+xa),.nl]:=(hkb _ (by omega) (by omega)).trans (upd_same _ _ _)
   obtain⟨bx,hbx⟩:∃bx,m3+2+4=bx:=⟨_,rfl⟩
   rw[hbx]at hbb ⊢
   replace hg:=hgb
   obtain⟨g,hgg⟩:∃g,1+xa=g:=⟨_,rfl⟩
   rw[hgg]at hbb ⊢
   try simp-dsimp-implicitDefEqProofs (disch:=(first|omega|((repeat refine LC.upd (by omega) ?_);assumption))) only[go_sem,undef,w64]
   refine hN _ ?_
   try clear hN N
   refine AW.block ?_
   obtain⟨rr,rfl⟩:∃n:Nat,xb=n:=⟨xb.toNat,by omega⟩
   refine AW.loopN (α:=Nat×HP×AV×List (List Int)) (fun x=>sl 97 [(0,.q sid 0),(2,.q nx 0),(10,.q bx 0),(11,.i .i64 x.1)]) (fun x=>x.2.1) (fun x m=>(x.1+x.2.2.2.length≤4∧mb≤m)∧(LC x.2.1 (bx+1) m x.2.2.1 (x.2.2.2.map ints)∧∀w∈x.2.2.2,w.length≤1000)∧x.2.1 bx=some [.i .i64 g,x.2.2.1]∧srcOk bs sid x.2.1∧(∀i,i<nx→i≠sid→x.2.1 i=H i)∧x.2.1 nx=some [.i .i64 0,.nl]) (fun x=>x.1) ((rr,Hb,.nl,[])) ?_ ?_ (fun _ _ h=>h) ?_
   ·exact⟨⟨by simp;omega,by first|omega|(simp only;omega)|(dsimp only;omega)⟩,⟨.nil,by simp⟩,hbb,hg,hl,h0⟩
   ·simp(disch:=omega) [wks,wkA,sl,w64,ints,rows,cubes,w64]<;>omega
   ·skip
    rintro⟨q,G,L,W⟩ m ⟨⟨hq,hm⟩,⟨hL,hW⟩,hbb,hg,hl,h0⟩
    simp-dsimp-implicitDefEqProofs (disch:=(first|omega|((repeat refine LC.upd (by omega) ?_);assumption))) only[go_sem,undef]
    dsimp only at hq hm hL hW hbb hg hl h0 ⊢
    have hLo:=hL.one
    have hLl:=hL.len
    have hLb:=hL.bd
    refine AW.seq (fun N3 hN3=> ?_)
    refine AW.sr envOk (fun N hN=> ?_)
    simp-dsimp-implicitDefEqProofs (disch:=(first|omega|((repeat refine LC.upd (by omega) ?_);assumption))) only[go_sem,undef,w64]
    refine hN _ ?_
    try clear hN N
    refine AW.cond rfl (fun h3=> ?_) (fun h3=> ?_)
    ·try simp only[cn]at h3
     refine AW.skip ?_
     simp only[thn,blk]
     refine hN3 _ ?_
     try clear hN3 N3
     refine AW.seq (fun N4 hN4=> ?_)
     refine AW.block ?_
     refine AW.seq (fun N hN=> ?_)
     apply mkW (N:=N)
     ·intro key
      refine AW.drawT envOk (by kernel_rfl) [true,true,false,true,false,false,false,false] (.br 2 (.br 4 (.br 5 (.br 6 (.br 7 .nil .nil) .nil) .nil) .nil) (.br 4 (.br 2 (.br 5 (.br 6 (.br 7 .nil .nil) .nil) .nil) (.br 5 (.br 2 (.br 6 (.br 7 .nil .nil) .nil) .nil) .nil)) .nil)) (by kernel_rfl) ?_
      simp-dsimp-implicitDefEqProofs (disch:=(first|omega|((repeat refine LC.upd (by omega) ?_);assumption))) only[go_sem,undef,w64]
      rw[hbb]
      try simp-dsimp-implicitDefEqProofs (disch:=(first|omega|((repeat refine LC.upd (by omega) ?_);assumption))) only[go_sem,undef,w64]
      refine⟨?_,?_⟩
      ·skip
       refine(spec_l01Next_s hg 6 (by omega) _).mono2 ?_
       rintro m1 H1 r1 hm1 ⟨⟨x1,rfl,hx1⟩,hg1,hk1⟩
       try simp-dsimp-implicitDefEqProofs (disch:=(first|omega|((repeat refine LC.upd (by omega) ?_);assumption))) only[go_sem,undef,w64]
       refine(spec_l06Letters_s hg1 g (1+x1) (by omega) (by omega) _ (by omega)).mono2 ?_
       rintro m2 H2 r2 hm2 ⟨⟨w,rfl,hwl,hwv⟩,hg2,hk2⟩
       try simp-dsimp-implicitDefEqProofs (disch:=(first|omega|((repeat refine LC.upd (by omega) ?_);assumption))) only[go_sem,undef,w64]
       have hk3:∀i,i<m→i≠sid→H2 i=G i:=fun i hi hne=>(hk2 i (by omega) hne).trans (hk1 i (by omega) hne)
       exact key m2 H2 w x1 (And.intro (show m+2+8≤m2 by omega) (And.intro (And.intro hwl hwv) (And.intro hg2 hk3)))
      ·skip
       refine(spec_l01Next_s hg 6 (by omega) _).mono2 ?_
       rintro m1 H1 r1 hm1 ⟨⟨x1,rfl,hx1⟩,hg1,hk1⟩
       have hb1:=(hk1 bx (by omega) (by omega)).trans hbb
       try simp-dsimp-implicitDefEqProofs (disch:=(first|omega|((repeat refine LC.upd (by omega) ?_);assumption))) only[go_sem,undef,w64,hb1]
       refine⟨?_,?_⟩
       all_goals
        refine(spec_l06Letters_s hg1 g (1+x1) (by omega) (by omega) _ (by omega)).mono2 ?_
        rintro m2 H2 r2 hm2 ⟨⟨w,rfl,hwl,hwv⟩,hg2,hk2⟩
        try simp-dsimp-implicitDefEqProofs (disch:=(first|omega|((repeat refine LC.upd (by omega) ?_);assumption))) only[go_sem,undef,w64]
        have hk3:∀i,i<m→i≠sid→H2 i=G i:=fun i hi hne=>(hk2 i (by omega) hne).trans (hk1 i (by omega) hne)
        exact key m2 H2 w x1 (And.intro (show m+2+8≤m2 by omega) (And.intro (And.intro hwl hwv) (And.intro hg2 hk3)))
     intro m2 H2 w x1 hC
     obtain⟨hm2,⟨hwl,hwv⟩,hg2,hk2⟩:=hC
     have hb2:=(hk2 bx (by omega) (by omega)).trans hbb
     refine hN _ ?_
     try clear hN N
     refine AW.seq (fun N5 hN5=> ?_)
     refine AW.sr envOk (fun N hN=> ?_)
     simp-dsimp-implicitDefEqProofs (disch:=(first|omega|((repeat refine LC.upd (by omega) ?_);assumption))) only[go_sem,undef,w64]
     refine(spec_l01Next_s hg2 2 (by omega) _).mono2 ?_
     rintro m3 H3 r3 hm3 ⟨⟨x3,rfl,hx3⟩,hg3,hk3⟩
     have hb3:=(hk3 bx (by omega) (by omega)).trans hb2
     try simp-dsimp-implicitDefEqProofs (disch:=(first|omega|((repeat refine LC.upd (by omega) ?_);assumption))) only[go_sem,undef,w64]
     refine hN _ ?_
     try clear hN N
     refine AW.cond rfl (fun h4=> ?_) (fun h4=> ?_)
     ·try simp only[cn]at h4
      refine AW.name (fun N hN=> ?_)
      apply mkV (N:=N)
      ·intro key
       refine AW.drawT envOk (by kernel_rfl) [true,true,true,false,true,false,false,false,false,false] (.br 3 (.br 5 (.br 6 (.br 7 (.br 8 (.br 9 .nil .nil) .nil) .nil) .nil) .nil) (.br 5 (.br 3 (.br 6 (.br 7 (.br 8 (.br 9 .nil .nil) .nil) .nil) .nil) (.br 6 (.br 3 (.br 7 (.br 8 (.br 9 .nil .nil) .nil) .nil) .nil) .nil)) .nil)) (by kernel_rfl) ?_
       simp-dsimp-implicitDefEqProofs (disch:=(first|omega|((repeat refine LC.upd (by omega) ?_);assumption))) only[go_sem,undef,w64]
       rw[hb3]
       try simp-dsimp-implicitDefEqProofs (disch:=(first|omega|((repeat refine LC.upd (by omega) ?_);assumption))) only[go_sem,undef,w64]
       refine⟨?_,?_⟩
       ·skip
        refine(spec_l01Next_s hg3 2 (by omega) _).mono2 ?_
        rintro m4 H4 r4 hm4 ⟨⟨x4,rfl,hx4⟩,hg4,hk4⟩
        try simp-dsimp-implicitDefEqProofs (disch:=(first|omega|((repeat refine LC.upd (by omega) ?_);assumption))) only[go_sem,undef,w64]
        refine(spec_l06Letters_s hg4 g (1+x4) (by omega) (by omega) _ (by omega)).mono2 ?_
        rintro m5 H5 r5 hm5 ⟨⟨w5,rfl,hwl5,hwv5⟩,hg5,hk5⟩
        try simp-dsimp-implicitDefEqProofs (disch:=(first|omega|((repeat refine LC.upd (by omega) ?_);assumption))) only[go_sem,undef,w64]
        refine(spec_l06Commute_z w w5 hwl hwl5 hwv hwv5 _ _).mono2 ?_
        rintro m6 H6 r6 hm6 ⟨⟨w6,rfl,hwl6⟩,hk6⟩
        try simp-dsimp-implicitDefEqProofs (disch:=(first|omega|((repeat refine LC.upd (by omega) ?_);assumption))) only[go_sem,undef,w64]
        have hk7:∀i,i<m3→i≠sid→H6 i=H3 i:=fun i hi hne=>(hk6 i (by omega)).trans ((hk5 i (by omega) hne).trans (hk4 i (by omega) hne))
        generalize ints w5=z5
        exact key m6 H6 w6 z5 x4 (And.intro (show m3+10≤m6 by omega) (And.intro hwl6 (And.intro (hg5.keep (hk6 sid (by omega))) hk7)))
       ·skip
        refine(spec_l01Next_s hg3 2 (by omega) _).mono2 ?_
        rintro m4 H4 r4 hm4 ⟨⟨x4,rfl,hx4⟩,hg4,hk4⟩
        have hb4:=(hk4 bx (by omega) (by omega)).trans hb3
        try simp-dsimp-implicitDefEqProofs (disch:=(first|omega|((repeat refine LC.upd (by omega) ?_);assumption))) only[go_sem,undef,w64,hb4]
        refine⟨?_,?_⟩
        all_goals
         try simp-dsimp-implicitDefEqProofs (disch:=(first|omega|((repeat refine LC.upd (by omega) ?_);assumption))) only[go_sem,undef,w64]
         refine(spec_l06Letters_s hg4 g (1+x4) (by omega) (by omega) _ (by omega)).mono2 ?_
         rintro m5 H5 r5 hm5 ⟨⟨w5,rfl,hwl5,hwv5⟩,hg5,hk5⟩
         try simp-dsimp-implicitDefEqProofs (disch:=(first|omega|((repeat refine LC.upd (by omega) ?_);assumption))) only[go_sem,undef,w64]
         refine(spec_l06Commute_z w w5 hwl hwl5 hwv hwv5 _ _).mono2 ?_
         rintro m6 H6 r6 hm6 ⟨⟨w6,rfl,hwl6⟩,hk6⟩
         try simp-dsimp-implicitDefEqProofs (disch:=(first|omega|((repeat refine LC.upd (by omega) ?_);assumption))) only[go_sem,undef,w64]
         have hk7:∀i,i<m3→i≠sid→H6 i=H3 i:=fun i hi hne=>(hk6 i (by omega)).trans ((hk5 i (by omega) hne).trans (hk4 i (by omega) hne))
         generalize ints w5=z5
         exact key m6 H6 w6 z5 x4 (And.intro (show m3+10≤m6 by omega) (And.intro hwl6 (And.intro (hg5.keep (hk6 sid (by omega))) hk7)))
      intro m6 H6 w6 z5 x4 hC
      obtain⟨hm6,hwl6,hg6,hk6⟩:=hC
      have hb6:=(hk6 bx (by omega) (by omega)).trans hb3
      refine hN _ ?_
      simp only[thn,blk]
      refine hN5 _ ?_
      try clear hN5 N5
      first|(have hbq:=hb6;have hLq:LC H6 (bx+1) m L (W.map ints):=hL.keep (fun i h1 h2=>(hk6 i (by omega) (by omega)).trans ((hk3 i (by omega) (by omega)).trans (hk2 i (by omega) (by omega))));have hlq:∀i,i<nx→i≠sid→H6 i=H i:=fun i hi hne=>(hk6 i (by omega) hne).trans ((hk3 i (by omega) hne).trans ((hk2 i (by omega) hne).trans (hl i hi hne)));have h0q:H6 nx=some [.i .i64 0,.nl]:=(hk6 nx (by omega) (by omega)).trans ((hk3 nx (by omega) (by omega)).trans ((hk2 nx (by omega) (by omega)).trans h0));have hgq:=hg6)|(have hbq:=hb3;have hLq:LC H3 (bx+1) m L (W.map ints):=hL.keep (fun i h1 h2=>(hk3 i (by omega) (by omega)).trans (hk2 i (by omega) (by omega)));have hlq:∀i,i<nx→i≠sid→H3 i=H i:=fun i hi hne=>(hk3 i (by omega) hne).trans ((hk2 i (by omega) hne).trans (hl i hi hne));have h0q:H3 nx=some [.i .i64 0,.nl]:=(hk3 nx (by omega) (by omega)).trans ((hk2 nx (by omega) (by omega)).trans h0);have hgq:=hg3)
      refine AW.regionL envOk ?_
      simp-dsimp-implicitDefEqProofs (disch:=(first|omega|((repeat refine LC.upd (by omega) ?_);assumption))) only[go_sem,undef,w64,hbq,hLo,hLl,dl_ne,apst_LC (a:=bx+1) (b:=m) (L:=L) (cs:=W.map ints)]
      refine hN4 _ ?_
      try clear hN4 N4
      refine AW.nameH (fun G9 hG9=> ?_)
      dsimp only at hG9
      have hl9:∀i,i<nx→i≠sid→G9 i=H i:=fun i hi hne=>by rw[←hG9];simp(disch:=omega) only[upd_ne,dl_ne];exact hlq i hi hne
      have h09:G9 nx=some [.i .i64 0,.nl]:=by rw[←hG9];simp(disch:=omega) only[upd_ne,dl_ne];exact h0q
      have hg9:srcOk bs sid G9:=hgq.keep (by rw[←hG9];simp(disch:=omega) only[upd_ne,dl_ne])
      refine AW.regionL envOk ?_
      simp-dsimp-implicitDefEqProofs (disch:=(first|omega|((repeat refine LC.upd (by omega) ?_);assumption))) only[go_sem,undef,w64]
      refine⟨(q-1,G9,.h (m6+4) 0 (W.length+1),W++[w6]),?_,fun _ _ h=>h,?_,?_⟩
      ·simp(disch:=omega) [wks,wkA,sl,w64]<;>omega
      ·have hmk:LC G9 (bx+1) (m6+7+3) (.h (m6+4) 0 (W.length+1)) ((W++[w6]).map ints):=LC.mk (by rw[←hG9];simp(disch:=omega) only[upd_ne,upd_same];simp) (by simp) (by omega) (by omega)
       have hb9:G9 bx=some [.i .i64 g,.h (m6+4) 0 (W.length+1)]:=by rw[←hG9];simp(disch:=omega) only[upd_ne,upd_same]
       have hW9:∀z∈W++[w6],z.length≤1000:=app_all hW (by omega)
       first|exact⟨⟨by simp;omega,by first|omega|(simp only;omega)|(dsimp only;omega)⟩,⟨hmk,hW9⟩,hb9,hg9,hl9,h09⟩|exact⟨by simp;omega,⟨hmk,hW9⟩,hb9,hg9,hl9,h09⟩
      ·first|omega|(simp only;omega)
     ·try simp only[cn]at h4
      refine AW.skip ?_
      simp only[thn,blk]
      refine hN5 _ ?_
      try clear hN5 N5
      first|(have hbq:=hb6;have hLq:LC H6 (bx+1) m L (W.map ints):=hL.keep (fun i h1 h2=>(hk6 i (by omega) (by omega)).trans ((hk3 i (by omega) (by omega)).trans (hk2 i (by omega) (by omega))));have hlq:∀i,i<nx→i≠sid→H6 i=H i:=fun i hi hne=>(hk6 i (by omega) hne).trans ((hk3 i (by omega) hne).trans ((hk2 i (by omega) hne).trans (hl i hi hne)));have h0q:H6 nx=some [.i .i64 0,.nl]:=(hk6 nx (by omega) (by omega)).trans ((hk3 nx (by omega) (by omega)).trans ((hk2 nx (by omega) (by omega)).trans h0));have hgq:=hg6)|(have hbq:=hb3;have hLq:LC H3 (bx+1) m L (W.map ints):=hL.keep (fun i h1 h2=>(hk3 i (by omega) (by omega)).trans (hk2 i (by omega) (by omega)));have hlq:∀i,i<nx→i≠sid→H3 i=H i:=fun i hi hne=>(hk3 i (by omega) hne).trans ((hk2 i (by omega) hne).trans (hl i hi hne));have h0q:H3 nx=some [.i .i64 0,.nl]:=(hk3 nx (by omega) (by omega)).trans ((hk2 nx (by omega) (by omega)).trans h0);have hgq:=hg3)
      refine AW.regionL envOk ?_
      simp-dsimp-implicitDefEqProofs (disch:=(first|omega|((repeat refine LC.upd (by omega) ?_);assumption))) only[go_sem,undef,w64,hbq,hLo,hLl,dl_ne,apst_LC (a:=bx+1) (b:=m) (L:=L) (cs:=W.map ints)]
      refine hN4 _ ?_
      try clear hN4 N4
      refine AW.nameH (fun G9 hG9=> ?_)
      dsimp only at hG9
      have hl9:∀i,i<nx→i≠sid→G9 i=H i:=fun i hi hne=>by rw[←hG9];simp(disch:=omega) only[upd_ne,dl_ne];exact hlq i hi hne
      have h09:G9 nx=some [.i .i64 0,.nl]:=by rw[←hG9];simp(disch:=omega) only[upd_ne,dl_ne];exact h0q
      have hg9:srcOk bs sid G9:=hgq.keep (by rw[←hG9];simp(disch:=omega) only[upd_ne,dl_ne])
      refine AW.regionL envOk ?_
      simp-dsimp-implicitDefEqProofs (disch:=(first|omega|((repeat refine LC.upd (by omega) ?_);assumption))) only[go_sem,undef,w64]
      refine⟨(q-1,G9,.h (m3+4) 0 (W.length+1),W++[w]),?_,fun _ _ h=>h,?_,?_⟩
      ·simp(disch:=omega) [wks,wkA,sl,w64]<;>omega
      ·have hmk:LC G9 (bx+1) (m3+7+3) (.h (m3+4) 0 (W.length+1)) ((W++[w]).map ints):=LC.mk (by rw[←hG9];simp(disch:=omega) only[upd_ne,upd_same];simp) (by simp) (by omega) (by omega)
       have hb9:G9 bx=some [.i .i64 g,.h (m3+4) 0 (W.length+1)]:=by rw[←hG9];simp(disch:=omega) only[upd_ne,upd_same]
       have hW9:∀z∈W++[w],z.length≤1000:=app_all hW (by omega)
       first|exact⟨⟨by simp;omega,by first|omega|(simp only;omega)|(dsimp only;omega)⟩,⟨hmk,hW9⟩,hb9,hg9,hl9,h09⟩|exact⟨by simp;omega,⟨hmk,hW9⟩,hb9,hg9,hl9,h09⟩
      ·first|omega|(simp only;omega)
    ·try simp only[cn]at h3
     refine AW.exit ?_
     simp only[thn,blk,if_true]
     refine hN2 _ ?_
     try clear hN2 N2
     have hLc:=hL.cells
     refine AW.sr envOk (fun N hN=> ?_)
     simp-dsimp-implicitDefEqProofs (disch:=(first|omega|((repeat refine LC.upd (by omega) ?_);assumption))) only[go_sem,undef,w64,hbb,h0,hLo,hLc,Bool.and_true]
     refine hN _ ?_
     try clear hN N
     refine AW.ret ?_
     simp-dsimp-implicitDefEqProofs (disch:=(first|omega|((repeat refine LC.upd (by omega) ?_);assumption))) only[go_sem,undef]
     exact⟨_,fun _ _ h=>h,_,_,fzh_refl,.refl _,⟨g,L,W,rfl,(LC.upd (by omega) hL).wide (by omega) (by omega),⟨by omega,fun w hw=>by have:=hW w hw;omega⟩,by omega⟩,hg.keep (upd_ne _ _ (by omega)),fun i hi hne=>(upd_ne _ _ (by omega)).trans (hl i hi hne)⟩
 ·try simp only[cn]at h1
  refine AW.sr envOk (fun N hN=> ?_)
  simp-dsimp-implicitDefEqProofs (disch:=(first|omega|((repeat refine LC.upd (by omega) ?_);assumption))) only[go_sem,undef,w64]
  refine hN _ ?_
  try clear hN N
  refine AW.cond rfl (fun h5=> ?_) (fun h5=> ?_)
  ·try simp only[cn]at h5
   refine AW.sr envOk (fun N hN=> ?_)
   simp-dsimp-implicitDefEqProofs (disch:=(first|omega|((repeat refine LC.upd (by omega) ?_);assumption))) only[go_sem,undef,w64]
   refine(spec_l01Next_s (hg.keep (by first|rfl|(simp(disch:=omega) only[upd_ne]))) 4 (by omega) _).mono2 ?_
   rintro m12 H12 r12 hm12 ⟨⟨x12,rfl,hx12⟩,hg12,hk12⟩
   replace hl:∀i,i<nx→i≠sid→H12 i=H i:=fun i hi hne=>(hk12 i (by omega) hne).trans (by first|exact hl i hi hne|(simp(disch:=omega) only[upd_ne];exact hl i hi hne))
   replace h0:H12 nx=some [.i .i64 0,.nl]:=(hk12 nx (by omega) (by omega)).trans (by first|exact h0|(simp(disch:=omega) only[upd_ne];exact h0))
   replace hg:=hg12
   try simp-dsimp-implicitDefEqProofs (disch:=(first|omega|((repeat refine LC.upd (by omega) ?_);assumption))) only[go_sem,undef,w64]
   refine(spec_l01Next_s (hg.keep (by first|rfl|(simp(disch:=omega) only[upd_ne]))) 3 (by omega) _).mono2 ?_
   rintro m13 H13 r13 hm13 ⟨⟨x13,rfl,hx13⟩,hg13,hk13⟩
   replace hl:∀i,i<nx→i≠sid→H13 i=H i:=fun i hi hne=>(hk13 i (by omega) hne).trans (by first|exact hl i hi hne|(simp(disch:=omega) only[upd_ne];exact hl i hi hne))
   replace h0:H13 nx=some [.i .i64 0,.nl]:=(hk13 nx (by omega) (by omega)).trans (by first|exact h0|(simp(disch:=omega) only[upd_ne];exact h0))
   replace hg:=hg13
   try simp-dsimp-implicitDefEqProofs (disch:=(first|omega|((repeat refine LC.upd (by omega) ?_);assumption))) only[go_sem,undef,w64]
   refine(spec_l01Next_s (hg.keep (by first|rfl|(simp(disch:=omega) only[upd_ne]))) 4 (by omega) _).mono2 ?_
   rintro m14 H14 r14 hm14 ⟨⟨x14,rfl,hx14⟩,hg14,hk14⟩
   replace hl:∀i,i<nx→i≠sid→H14 i=H i:=fun i hi hne=>(hk14 i (by omega) hne).trans (by first|exact hl i hi hne|(simp(disch:=omega) only[upd_ne];exact hl i hi hne))
   replace h0:H14 nx=some [.i .i64 0,.nl]:=(hk14 nx (by omega) (by omega)).trans (by first|exact h0|(simp(disch:=omega) only[upd_ne];exact h0))
   replace hg:=hg14
   try simp-dsimp-implicitDefEqProofs (disch:=(first|omega|((repeat refine LC.upd (by omega) ?_);assumption))) only[go_sem,undef,w64]
   refine hN _ ?_
   try clear hN N
   refine AW.sr envOk (fun N hN=> ?_)
   simp-dsimp-implicitDefEqProofs (disch:=(first|omega|((repeat refine LC.upd (by omega) ?_);assumption))) only[go_sem,undef,w64]
   refine hN _ ?_
   try clear hN N
   refine AW.seq (fun N6 hN6=> ?_)
   refine AW.nameH (fun G8 hG8=> ?_)
   dsimp only at hG8
   have hl8:∀i,i<nx→i≠sid→G8 i=H i:=fun i hi hne=>by rw[←hG8,upd_ne _ _ (by omega)];exact hl i hi hne
   have h08:G8 nx=some [.i .i64 0,.nl]:=by rw[←hG8,upd_ne _ _ (by omega)];exact h0
   have hg8:srcOk bs sid G8:=hg.keep (by rw[←hG8,upd_ne _ _ (by omega)])
   have hc8:G8 m14=some []:=by rw[←hG8,upd_same]
   refine AW.sr envOk (fun N hN=> ?_)
   simp-dsimp-implicitDefEqProofs (disch:=(first|omega|((repeat refine LC.upd (by omega) ?_);assumption))) only[go_sem,undef,w64]
   refine hN _ ?_
   try clear hN N
   refine AW.block ?_
   refine AW.loopN (α:=Nat×HP×Nat×List Int) (fun x=>sl 97 [(0,.q sid 0),(2,.q nx 0),(5,.i .i64 (2+x12)),(6,.i .i64 (2+x13)),(7,.i .i64 (2+x14)),(8,.h x.2.2.1 0 x.2.2.2.length),(9,.i .i64 x.1),(14,.i .i64 x1)]) (fun x=>x.2.1) (fun x m=>(x.1≤5∧m14≤x.2.2.1∧x.2.2.1<m)∧x.2.1 x.2.2.1=some (x.2.2.2.map (.i .i64))∧x.2.2.2.length≤2*x.1∧srcOk bs sid x.2.1∧(∀i,i<nx→i≠sid→x.2.1 i=H i)∧x.2.1 nx=some [.i .i64 0,.nl]) (fun x=>5-x.1) ((0,G8,m14,[])) ?_ ?_ (fun _ _ h=>h) ?_
   ·exact⟨⟨by simp,by first|omega|(simp only;omega)|(dsimp only;omega),by first|omega|(simp only;omega)|(dsimp only;omega)⟩,hc8,by simp,hg8,hl8,h08⟩
   ·simp(disch:=omega) [wks,wkA,sl,w64,ints,rows,cubes,w64]<;>omega
   ·skip
    rintro⟨k,G,id,vs⟩ m ⟨⟨hk,hid1,hid2⟩,hcv,hvl,hg,hl,h0⟩
    simp-dsimp-implicitDefEqProofs (disch:=(first|omega|((repeat refine LC.upd (by omega) ?_);assumption))) only[go_sem,undef]
    dsimp only at hk hid1 hid2 hcv hvl hg hl h0 ⊢
    refine AW.seq (fun N7 hN7=> ?_)
    refine AW.sr envOk (fun N hN=> ?_)
    simp-dsimp-implicitDefEqProofs (disch:=(first|omega|((repeat refine LC.upd (by omega) ?_);assumption))) only[go_sem,undef,w64]
    refine hN _ ?_
    try clear hN N
    refine AW.cond rfl (fun h6=> ?_) (fun h6=> ?_)
    ·try simp only[cn]at h6
     refine AW.skip ?_
     simp only[thn,blk]
     refine hN7 _ ?_
     try clear hN7 N7
     refine AW.seq (fun N8 hN8=> ?_)
     refine AW.block ?_
     refine AW.regionL envOk ?_
     simp-dsimp-implicitDefEqProofs (disch:=(first|omega|((repeat refine LC.upd (by omega) ?_);assumption))) only[go_sem,undef,w64,hcv,List.length_map,one_two]
     refine hN8 _ ?_
     try clear hN8 N8
     refine AW.nameH (fun G12 hG12=> ?_)
     dsimp only at hG12
     have hl12:∀i,i<nx→i≠sid→G12 i=H i:=fun i hi hne=>by rw[←hG12];simp(disch:=omega) only[upd_ne];exact hl i hi hne
     have h012:G12 nx=some [.i .i64 0,.nl]:=by rw[←hG12];simp(disch:=omega) only[upd_ne];exact h0
     have hg12:srcOk bs sid G12:=hg.keep (by rw[←hG12];simp(disch:=omega) only[upd_ne])
     refine AW.regionL envOk ?_
     simp-dsimp-implicitDefEqProofs (disch:=(first|omega|((repeat refine LC.upd (by omega) ?_);assumption))) only[go_sem,undef,w64]
     refine⟨(k+1,G12,m+3+2,vs++[1,2]),?_,fun _ _ h=>h,?_,?_⟩
     ·simp(disch:=omega) [wks,wkA,sl,w64]<;>omega
     ·have hc12:G12 (m+3+2)=some ((vs++[1,2]).map (.i .i64)):=by rw[←hG12,upd_same,List.take_of_length_le (by simp)];simp
      first|exact⟨⟨by first|omega|(simp only;omega)|(dsimp only;omega),by first|omega|(simp only;omega)|(dsimp only;omega),by first|omega|(simp only;omega)|(dsimp only;omega)⟩,hc12,by simp;omega,hg12,hl12,h012⟩|exact⟨by first|omega|(simp only;omega)|(dsimp only;omega),hc12,by simp;omega,hg12,hl12,h012⟩
     ·first|omega|(simp only;omega)
    ·try simp only[cn]at h6
     refine AW.exit ?_
     simp only[thn,blk,if_true]
     refine hN6 _ ?_
     try clear hN6 N6
     refine AW.sr envOk (fun N hN=> ?_)
     simp-dsimp-implicitDefEqProofs (disch:=(first|omega|((repeat refine LC.upd (by omega) ?_);assumption))) only[go_sem,undef,w64]
     refine(spec_l09Same_z 1 (2+x12) (by omega) (by omega) _ _).mono2 ?_
     rintro m15 H15 r15 hm15 ⟨⟨w15,rfl,hwl15,-⟩,hk15⟩
     replace hg:srcOk bs sid H15:=hg.keep ((hk15 sid (by omega)).trans (by first|rfl|(simp(disch:=omega) only[upd_ne])))
     replace hl:∀i,i<nx→i≠sid→H15 i=H i:=fun i hi hne=>(hk15 i (by omega)).trans (by first|exact hl i hi hne|(simp(disch:=omega) only[upd_ne];exact hl i hi hne))
     replace h0:H15 nx=some [.i .i64 0,.nl]:=(hk15 nx (by omega)).trans (by first|exact h0|(simp(disch:=omega) only[upd_ne];exact h0))
     try simp-dsimp-implicitDefEqProofs (disch:=(first|omega|((repeat refine LC.upd (by omega) ?_);assumption))) only[go_sem,undef,w64]
     refine(spec_l09Same_z 2 (2+x13) (by omega) (by omega) _ _).mono2 ?_
     rintro m16 H16 r16 hm16 ⟨⟨w16,rfl,hwl16,-⟩,hk16⟩
     replace hg:srcOk bs sid H16:=hg.keep ((hk16 sid (by omega)).trans (by first|rfl|(simp(disch:=omega) only[upd_ne])))
     replace hl:∀i,i<nx→i≠sid→H16 i=H i:=fun i hi hne=>(hk16 i (by omega)).trans (by first|exact hl i hi hne|(simp(disch:=omega) only[upd_ne];exact hl i hi hne))
     replace h0:H16 nx=some [.i .i64 0,.nl]:=(hk16 nx (by omega)).trans (by first|exact h0|(simp(disch:=omega) only[upd_ne];exact h0))
     try simp-dsimp-implicitDefEqProofs (disch:=(first|omega|((repeat refine LC.upd (by omega) ?_);assumption))) only[go_sem,undef,w64,h0]
     refine hN _ ?_
     try clear hN N
     refine AW.ret ?_
     simp-dsimp-implicitDefEqProofs (disch:=(first|omega|((repeat refine LC.upd (by omega) ?_);assumption))) only[go_sem,undef]
     have hc16:H16 id=some (vs.map (.i .i64)):=(hk16 id (by omega)).trans ((hk15 id (by omega)).trans hcv)
     have hfz:=FzH.cellx (H:=upd (upd H16 (m+3+5) (some [ints w15,ints w16,.h id 0 vs.length])) nx (some [.i .i64 2,.h (m+3+5) 0 3])) (i:=m+3+5) (j:=id) (n:=vs.length) (k:=2) (cs:=[ints w15,ints w16,.h id 0 vs.length]) (ds:=vs.map (.i .i64)) ((upd_ne _ _ (by omega)).trans (upd_same _ _ _)) rfl ((upd_ne _ _ (by omega)).trans ((upd_ne _ _ (by omega)).trans hc16)) (by simp) (by omega)
     exact⟨_,fun _ _ h=>h,_,_,hfz,.refl _,⟨2,_,[w15,w16,vs],rfl,(LC.mk (upd_same _ _ _) rfl (Nat.le_refl _) (Nat.lt_succ_self _)).wide (by omega) (by omega),⟨by simp,by simp;omega⟩,by omega⟩,hg.keep (by simp(disch:=omega) only[upd_ne]),fun i hi hne=>by simp(disch:=omega) only[upd_ne];exact hl i hi hne⟩
  ·try simp only[cn]at h5
   refine AW.sr envOk (fun N hN=> ?_)
   simp-dsimp-implicitDefEqProofs (disch:=(first|omega|((repeat refine LC.upd (by omega) ?_);assumption))) only[go_sem,undef,w64]
   refine hN _ ?_
   try clear hN N
   refine AW.cond rfl (fun h7=> ?_) (fun h7=> ?_)
   ·try simp only[cn]at h7
    refine AW.sr envOk (fun N hN=> ?_)
    simp-dsimp-implicitDefEqProofs (disch:=(first|omega|((repeat refine LC.upd (by omega) ?_);assumption))) only[go_sem,undef,w64]
    refine(spec_l01Next_s (hg.keep (by first|rfl|(simp(disch:=omega) only[upd_ne]))) 30 (by omega) _).mono2 ?_
    rintro m17 H17 r17 hm17 ⟨⟨x17,rfl,hx17⟩,hg17,hk17⟩
    replace hl:∀i,i<nx→i≠sid→H17 i=H i:=fun i hi hne=>(hk17 i (by omega) hne).trans (by first|exact hl i hi hne|(simp(disch:=omega) only[upd_ne];exact hl i hi hne))
    replace h0:H17 nx=some [.i .i64 0,.nl]:=(hk17 nx (by omega) (by omega)).trans (by first|exact h0|(simp(disch:=omega) only[upd_ne];exact h0))
    replace hg:=hg17
    try simp-dsimp-implicitDefEqProofs (disch:=(first|omega|((repeat refine LC.upd (by omega) ?_);assumption))) only[go_sem,undef,w64]
    refine(spec_l09Same_z 1 (1+x17) (by omega) (by omega) _ _).mono2 ?_
    rintro m18 H18 r18 hm18 ⟨⟨w18,rfl,hwl18,-⟩,hk18⟩
    replace hg:srcOk bs sid H18:=hg.keep ((hk18 sid (by omega)).trans (by first|rfl|(simp(disch:=omega) only[upd_ne])))
    replace hl:∀i,i<nx→i≠sid→H18 i=H i:=fun i hi hne=>(hk18 i (by omega)).trans (by first|exact hl i hi hne|(simp(disch:=omega) only[upd_ne];exact hl i hi hne))
    replace h0:H18 nx=some [.i .i64 0,.nl]:=(hk18 nx (by omega)).trans (by first|exact h0|(simp(disch:=omega) only[upd_ne];exact h0))
    try simp-dsimp-implicitDefEqProofs (disch:=(first|omega|((repeat refine LC.upd (by omega) ?_);assumption))) only[go_sem,undef,w64,h0]
    refine hN _ ?_
    try clear hN N
    refine AW.ret ?_
    simp-dsimp-implicitDefEqProofs (disch:=(first|omega|((repeat refine LC.upd (by omega) ?_);assumption))) only[go_sem,undef]
    exact⟨_,fun _ _ h=>h,_,_,fzh_refl,.refl _,⟨1,_,[w18],rfl,(LC.mk ((upd_ne _ _ (by omega)).trans (upd_same _ _ _)) rfl (Nat.le_refl _) (Nat.lt_succ_self _)).wide (by omega) (by omega),⟨by simp,by simp;omega⟩,by omega⟩,hg.keep (by simp(disch:=omega) only[upd_ne]),fun i hi hne=>by simp(disch:=omega) only[upd_ne];exact hl i hi hne⟩
   ·try simp only[cn]at h7
    refine AW.skip ?_
    simp only[thn,blk]
    refine hN1 _ ?_
    try clear hN1 N1
    refine AW.sr envOk (fun N hN=> ?_)
    simp-dsimp-implicitDefEqProofs (disch:=(first|omega|((repeat refine LC.upd (by omega) ?_);assumption))) only[go_sem,undef,w64]
    refine(spec_l01Next_s (hg.keep (by first|rfl|(simp(disch:=omega) only[upd_ne]))) 2 (by omega) _).mono2 ?_
    rintro ma Ha ra hma ⟨⟨xa,rfl,hxa⟩,hga,hka⟩
    replace hl:∀i,i<nx→i≠sid→Ha i=H i:=fun i hi hne=>(hka i (by omega) hne).trans (by first|exact hl i hi hne|(simp(disch:=omega) only[upd_ne];exact hl i hi hne))
    replace h0:Ha nx=some [.i .i64 0,.nl]:=(hka nx (by omega) (by omega)).trans (by first|exact h0|(simp(disch:=omega) only[upd_ne];exact h0))
    replace hg:=hga
    try simp-dsimp-implicitDefEqProofs (disch:=(first|omega|((repeat refine LC.upd (by omega) ?_);assumption))) only[go_sem,undef,w64]
    refine hN _ ?_
    try clear hN N
    refine AW.seq (fun N9 hN9=> ?_)
    refine AW.sr envOk (fun N hN=> ?_)
    simp-dsimp-implicitDefEqProofs (disch:=(first|omega|((repeat refine LC.upd (by omega) ?_);assumption))) only[go_sem,undef,w64]
    refine(spec_l01Next_s (hg.keep (by first|rfl|(simp(disch:=omega) only[upd_ne]))) 5 (by omega) _).mono2 ?_
    rintro mb Hb rb hmb ⟨⟨xb,rfl,hxb⟩,hgb,hkb⟩
    replace hl:∀i,i<nx→i≠sid→Hb i=H i:=fun i hi hne=>(hkb i (by omega) hne).trans (by first|exact hl i hi hne|(simp(disch:=omega) only[upd_ne];exact hl i hi hne))
    replace h0:Hb nx=some [.i .i64 0,.nl]:=(hkb nx (by omega) (by omega)).trans (by first|exact h0|(simp(disch:=omega) only[upd_ne];exact h0))
    have hbb:Hb (m1+2+2+2+4)=some [.i .i64 (1+xa),.nl]:=(hkb _ (by omega) (by omega)).trans (upd_same _ _ _)
    obtain⟨bx,hbx⟩:∃bx,m1+2+2+2+4=bx:=⟨_,rfl⟩
    rw[hbx]at hbb ⊢
    replace hg:=hgb
    obtain⟨g,hgg⟩:∃g,1+xa=g:=⟨_,rfl⟩
    rw[hgg]at hbb ⊢
    try simp-dsimp-implicitDefEqProofs (disch:=(first|omega|((repeat refine LC.upd (by omega) ?_);assumption))) only[go_sem,undef,w64]
    refine hN _ ?_
    try clear hN N
    refine AW.block ?_
    obtain⟨rr,rfl⟩:∃n:Nat,xb=n:=⟨xb.toNat,by omega⟩
    refine AW.loopN (α:=Nat×HP×AV×List (List Int)) (fun x=>sl 97 [(0,.q sid 0),(2,.q nx 0),(10,.q bx 0),(11,.i .i64 x.1)]) (fun x=>x.2.1) (fun x m=>(x.1+x.2.2.2.length≤4∧mb≤m)∧(LC x.2.1 (bx+1) m x.2.2.1 (x.2.2.2.map ints)∧∀w∈x.2.2.2,w.length≤1000)∧x.2.1 bx=some [.i .i64 g,x.2.2.1]∧srcOk bs sid x.2.1∧(∀i,i<nx→i≠sid→x.2.1 i=H i)∧x.2.1 nx=some [.i .i64 0,.nl]) (fun x=>x.1) ((rr,Hb,.nl,[])) ?_ ?_ (fun _ _ h=>h) ?_
    ·exact⟨⟨by simp;omega,by first|omega|(simp only;omega)|(dsimp only;omega)⟩,⟨.nil,by simp⟩,hbb,hg,hl,h0⟩
    ·simp(disch:=omega) [wks,wkA,sl,w64,ints,rows,cubes,w64]<;>omega
    ·skip
     rintro⟨q,G,L,W⟩ m ⟨⟨hq,hm⟩,⟨hL,hW⟩,hbb,hg,hl,h0⟩
     simp-dsimp-implicitDefEqProofs (disch:=(first|omega|((repeat refine LC.upd (by omega) ?_);assumption))) only[go_sem,undef]
     dsimp only at hq hm hL hW hbb hg hl h0 ⊢
     have hLo:=hL.one
     have hLl:=hL.len
     have hLb:=hL.bd
     refine AW.seq (fun N10 hN10=> ?_)
     refine AW.sr envOk (fun N hN=> ?_)
     simp-dsimp-implicitDefEqProofs (disch:=(first|omega|((repeat refine LC.upd (by omega) ?_);assumption))) only[go_sem,undef,w64]
     refine hN _ ?_
     try clear hN N
     refine AW.cond rfl (fun h8=> ?_) (fun h8=> ?_)
     ·try simp only[cn]at h8
      refine AW.skip ?_
      simp only[thn,blk]
      refine hN10 _ ?_
      try clear hN10 N10
      refine AW.seq (fun N11 hN11=> ?_)
      refine AW.block ?_
      refine AW.seq (fun N hN=> ?_)
      apply mkW (N:=N)
      ·intro key
       refine AW.drawT envOk (by kernel_rfl) [true,true,false,true,false,false,false,false] (.br 2 (.br 4 (.br 5 (.br 6 (.br 7 .nil .nil) .nil) .nil) .nil) (.br 4 (.br 2 (.br 5 (.br 6 (.br 7 .nil .nil) .nil) .nil) (.br 5 (.br 2 (.br 6 (.br 7 .nil .nil) .nil) .nil) .nil)) .nil)) (by kernel_rfl) ?_
       simp-dsimp-implicitDefEqProofs (disch:=(first|omega|((repeat refine LC.upd (by omega) ?_);assumption))) only[go_sem,undef,w64]
       rw[hbb]
       try simp-dsimp-implicitDefEqProofs (disch:=(first|omega|((repeat refine LC.upd (by omega) ?_);assumption))) only[go_sem,undef,w64]
       refine⟨?_,?_⟩
       ·skip
        refine(spec_l01Next_s hg 6 (by omega) _).mono2 ?_
        rintro m1 H1 r1 hm1 ⟨⟨x1,rfl,hx1⟩,hg1,hk1⟩
        try simp-dsimp-implicitDefEqProofs (disch:=(first|omega|((repeat refine LC.upd (by omega) ?_);assumption))) only[go_sem,undef,w64]
        refine(spec_l06Letters_s hg1 g (1+x1) (by omega) (by omega) _ (by omega)).mono2 ?_
        rintro m2 H2 r2 hm2 ⟨⟨w,rfl,hwl,hwv⟩,hg2,hk2⟩
        try simp-dsimp-implicitDefEqProofs (disch:=(first|omega|((repeat refine LC.upd (by omega) ?_);assumption))) only[go_sem,undef,w64]
        have hk3:∀i,i<m→i≠sid→H2 i=G i:=fun i hi hne=>(hk2 i (by omega) hne).trans (hk1 i (by omega) hne)
        exact key m2 H2 w x1 (And.intro (show m+2+8≤m2 by omega) (And.intro (And.intro hwl hwv) (And.intro hg2 hk3)))
       ·skip
        refine(spec_l01Next_s hg 6 (by omega) _).mono2 ?_
        rintro m1 H1 r1 hm1 ⟨⟨x1,rfl,hx1⟩,hg1,hk1⟩
        have hb1:=(hk1 bx (by omega) (by omega)).trans hbb
        try simp-dsimp-implicitDefEqProofs (disch:=(first|omega|((repeat refine LC.upd (by omega) ?_);assumption))) only[go_sem,undef,w64,hb1]
        refine⟨?_,?_⟩
        all_goals
         refine(spec_l06Letters_s hg1 g (1+x1) (by omega) (by omega) _ (by omega)).mono2 ?_
         rintro m2 H2 r2 hm2 ⟨⟨w,rfl,hwl,hwv⟩,hg2,hk2⟩
         try simp-dsimp-implicitDefEqProofs (disch:=(first|omega|((repeat refine LC.upd (by omega) ?_);assumption))) only[go_sem,undef,w64]
         have hk3:∀i,i<m→i≠sid→H2 i=G i:=fun i hi hne=>(hk2 i (by omega) hne).trans (hk1 i (by omega) hne)
         exact key m2 H2 w x1 (And.intro (show m+2+8≤m2 by omega) (And.intro (And.intro hwl hwv) (And.intro hg2 hk3)))
      intro m2 H2 w x1 hC
      obtain⟨hm2,⟨hwl,hwv⟩,hg2,hk2⟩:=hC
      have hb2:=(hk2 bx (by omega) (by omega)).trans hbb
      refine hN _ ?_
      try clear hN N
      refine AW.seq (fun N12 hN12=> ?_)
      refine AW.sr envOk (fun N hN=> ?_)
      simp-dsimp-implicitDefEqProofs (disch:=(first|omega|((repeat refine LC.upd (by omega) ?_);assumption))) only[go_sem,undef,w64]
      refine(spec_l01Next_s hg2 2 (by omega) _).mono2 ?_
      rintro m3 H3 r3 hm3 ⟨⟨x3,rfl,hx3⟩,hg3,hk3⟩
      have hb3:=(hk3 bx (by omega) (by omega)).trans hb2
      try simp-dsimp-implicitDefEqProofs (disch:=(first|omega|((repeat refine LC.upd (by omega) ?_);assumption))) only[go_sem,undef,w64]
      refine hN _ ?_
      try clear hN N
      refine AW.cond rfl (fun h9=> ?_) (fun h9=> ?_)
      ·try simp only[cn]at h9
       refine AW.name (fun N hN=> ?_)
       apply mkV (N:=N)
       ·intro key
        refine AW.drawT envOk (by kernel_rfl) [true,true,true,false,true,false,false,false,false,false] (.br 3 (.br 5 (.br 6 (.br 7 (.br 8 (.br 9 .nil .nil) .nil) .nil) .nil) .nil) (.br 5 (.br 3 (.br 6 (.br 7 (.br 8 (.br 9 .nil .nil) .nil) .nil) .nil) (.br 6 (.br 3 (.br 7 (.br 8 (.br 9 .nil .nil) .nil) .nil) .nil) .nil)) .nil)) (by kernel_rfl) ?_
        simp-dsimp-implicitDefEqProofs (disch:=(first|omega|((repeat refine LC.upd (by omega) ?_);assumption))) only[go_sem,undef,w64]
        rw[hb3]
        try simp-dsimp-implicitDefEqProofs (disch:=(first|omega|((repeat refine LC.upd (by omega) ?_);assumption))) only[go_sem,undef,w64]
        refine⟨?_,?_⟩
        ·skip
         refine(spec_l01Next_s hg3 2 (by omega) _).mono2 ?_
         rintro m4 H4 r4 hm4 ⟨⟨x4,rfl,hx4⟩,hg4,hk4⟩
         try simp-dsimp-implicitDefEqProofs (disch:=(first|omega|((repeat refine LC.upd (by omega) ?_);assumption))) only[go_sem,undef,w64]
         refine(spec_l06Letters_s hg4 g (1+x4) (by omega) (by omega) _ (by omega)).mono2 ?_
         rintro m5 H5 r5 hm5 ⟨⟨w5,rfl,hwl5,hwv5⟩,hg5,hk5⟩
         try simp-dsimp-implicitDefEqProofs (disch:=(first|omega|((repeat refine LC.upd (by omega) ?_);assumption))) only[go_sem,undef,w64]
         refine(spec_l06Commute_z w w5 hwl hwl5 hwv hwv5 _ _).mono2 ?_
         rintro m6 H6 r6 hm6 ⟨⟨w6,rfl,hwl6⟩,hk6⟩
         try simp-dsimp-implicitDefEqProofs (disch:=(first|omega|((repeat refine LC.upd (by omega) ?_);assumption))) only[go_sem,undef,w64]
         have hk7:∀i,i<m3→i≠sid→H6 i=H3 i:=fun i hi hne=>(hk6 i (by omega)).trans ((hk5 i (by omega) hne).trans (hk4 i (by omega) hne))
         generalize ints w5=z5
         exact key m6 H6 w6 z5 x4 (And.intro (show m3+10≤m6 by omega) (And.intro hwl6 (And.intro (hg5.keep (hk6 sid (by omega))) hk7)))
        ·skip
         refine(spec_l01Next_s hg3 2 (by omega) _).mono2 ?_
         rintro m4 H4 r4 hm4 ⟨⟨x4,rfl,hx4⟩,hg4,hk4⟩
         have hb4:=(hk4 bx (by omega) (by omega)).trans hb3
         try simp-dsimp-implicitDefEqProofs (disch:=(first|omega|((repeat refine LC.upd (by omega) ?_);assumption))) only[go_sem,undef,w64,hb4]
         refine⟨?_,?_⟩
         all_goals
          try simp-dsimp-implicitDefEqProofs (disch:=(first|omega|((repeat refine LC.upd (by omega) ?_);assumption))) only[go_sem,undef,w64]
          refine(spec_l06Letters_s hg4 g (1+x4) (by omega) (by omega) _ (by omega)).mono2 ?_
          rintro m5 H5 r5 hm5 ⟨⟨w5,rfl,hwl5,hwv5⟩,hg5,hk5⟩
          try simp-dsimp-implicitDefEqProofs (disch:=(first|omega|((repeat refine LC.upd (by omega) ?_);assumption))) only[go_sem,undef,w64]
          refine(spec_l06Commute_z w w5 hwl hwl5 hwv hwv5 _ _).mono2 ?_
          rintro m6 H6 r6 hm6 ⟨⟨w6,rfl,hwl6⟩,hk6⟩
          try simp-dsimp-implicitDefEqProofs (disch:=(first|omega|((repeat refine LC.upd (by omega) ?_);assumption))) only[go_sem,undef,w64]
          have hk7:∀i,i<m3→i≠sid→H6 i=H3 i:=fun i hi hne=>(hk6 i (by omega)).trans ((hk5 i (by omega) hne).trans (hk4 i (by omega) hne))
          generalize ints w5=z5
          exact key m6 H6 w6 z5 x4 (And.intro (show m3+10≤m6 by omega) (And.intro hwl6 (And.intro (hg5.keep (hk6 sid (by omega))) hk7)))
       intro m6 H6 w6 z5 x4 hC
       obtain⟨hm6,hwl6,hg6,hk6⟩:=hC
       have hb6:=(hk6 bx (by omega) (by omega)).trans hb3
       refine hN _ ?_
       simp only[thn,blk]
       refine hN12 _ ?_
       try clear hN12 N12
       first|(have hbq:=hb6;have hLq:LC H6 (bx+1) m L (W.map ints):=hL.keep (fun i h1 h2=>(hk6 i (by omega) (by omega)).trans ((hk3 i (by omega) (by omega)).trans (hk2 i (by omega) (by omega))));have hlq:∀i,i<nx→i≠sid→H6 i=H i:=fun i hi hne=>(hk6 i (by omega) hne).trans ((hk3 i (by omega) hne).trans ((hk2 i (by omega) hne).trans (hl i hi hne)));have h0q:H6 nx=some [.i .i64 0,.nl]:=(hk6 nx (by omega) (by omega)).trans ((hk3 nx (by omega) (by omega)).trans ((hk2 nx (by omega) (by omega)).trans h0));have hgq:=hg6)|(have hbq:=hb3;have hLq:LC H3 (bx+1) m L (W.map ints):=hL.keep (fun i h1 h2=>(hk3 i (by omega) (by omega)).trans (hk2 i (by omega) (by omega)));have hlq:∀i,i<nx→i≠sid→H3 i=H i:=fun i hi hne=>(hk3 i (by omega) hne).trans ((hk2 i (by omega) hne).trans (hl i hi hne));have h0q:H3 nx=some [.i .i64 0,.nl]:=(hk3 nx (by omega) (by omega)).trans ((hk2 nx (by omega) (by omega)).trans h0);have hgq:=hg3)
       refine AW.regionL envOk ?_
       simp-dsimp-implicitDefEqProofs (disch:=(first|omega|((repeat refine LC.upd (by omega) ?_);assumption))) only[go_sem,undef,w64,hbq,hLo,hLl,dl_ne,apst_LC (a:=bx+1) (b:=m) (L:=L) (cs:=W.map ints)]
       refine hN11 _ ?_
       try clear hN11 N11
       refine AW.nameH (fun G9 hG9=> ?_)
       dsimp only at hG9
       have hl9:∀i,i<nx→i≠sid→G9 i=H i:=fun i hi hne=>by rw[←hG9];simp(disch:=omega) only[upd_ne,dl_ne];exact hlq i hi hne
       have h09:G9 nx=some [.i .i64 0,.nl]:=by rw[←hG9];simp(disch:=omega) only[upd_ne,dl_ne];exact h0q
       have hg9:srcOk bs sid G9:=hgq.keep (by rw[←hG9];simp(disch:=omega) only[upd_ne,dl_ne])
       refine AW.regionL envOk ?_
       simp-dsimp-implicitDefEqProofs (disch:=(first|omega|((repeat refine LC.upd (by omega) ?_);assumption))) only[go_sem,undef,w64]
       refine⟨(q-1,G9,.h (m6+4) 0 (W.length+1),W++[w6]),?_,fun _ _ h=>h,?_,?_⟩
       ·simp(disch:=omega) [wks,wkA,sl,w64]<;>omega
       ·have hmk:LC G9 (bx+1) (m6+7+3) (.h (m6+4) 0 (W.length+1)) ((W++[w6]).map ints):=LC.mk (by rw[←hG9];simp(disch:=omega) only[upd_ne,upd_same];simp) (by simp) (by omega) (by omega)
        have hb9:G9 bx=some [.i .i64 g,.h (m6+4) 0 (W.length+1)]:=by rw[←hG9];simp(disch:=omega) only[upd_ne,upd_same]
        have hW9:∀z∈W++[w6],z.length≤1000:=app_all hW (by omega)
        first|exact⟨⟨by simp;omega,by first|omega|(simp only;omega)|(dsimp only;omega)⟩,⟨hmk,hW9⟩,hb9,hg9,hl9,h09⟩|exact⟨by simp;omega,⟨hmk,hW9⟩,hb9,hg9,hl9,h09⟩
       ·first|omega|(simp only;omega)
      ·try simp only[cn]at h9
       refine AW.skip ?_
       simp only[thn,blk]
       refine hN12 _ ?_
       try clear hN12 N12
       first|(have hbq:=hb6;have hLq:LC H6 (bx+1) m L (W.map ints):=hL.keep (fun i h1 h2=>(hk6 i (by omega) (by omega)).trans ((hk3 i (by omega) (by omega)).trans (hk2 i (by omega) (by omega))));have hlq:∀i,i<nx→i≠sid→H6 i=H i:=fun i hi hne=>(hk6 i (by omega) hne).trans ((hk3 i (by omega) hne).trans ((hk2 i (by omega) hne).trans (hl i hi hne)));have h0q:H6 nx=some [.i .i64 0,.nl]:=(hk6 nx (by omega) (by omega)).trans ((hk3 nx (by omega) (by omega)).trans ((hk2 nx (by omega) (by omega)).trans h0));have hgq:=hg6)|(have hbq:=hb3;have hLq:LC H3 (bx+1) m L (W.map ints):=hL.keep (fun i h1 h2=>(hk3 i (by omega) (by omega)).trans (hk2 i (by omega) (by omega)));have hlq:∀i,i<nx→i≠sid→H3 i=H i:=fun i hi hne=>(hk3 i (by omega) hne).trans ((hk2 i (by omega) hne).trans (hl i hi hne));have h0q:H3 nx=some [.i .i64 0,.nl]:=(hk3 nx (by omega) (by omega)).trans ((hk2 nx (by omega) (by omega)).trans h0);have hgq:=hg3)
       refine AW.regionL envOk ?_
       simp-dsimp-implicitDefEqProofs (disch:=(first|omega|((repeat refine LC.upd (by omega) ?_);assumption))) only[go_sem,undef,w64,hbq,hLo,hLl,dl_ne,apst_LC (a:=bx+1) (b:=m) (L:=L) (cs:=W.map ints)]
       refine hN11 _ ?_
       try clear hN11 N11
       refine AW.nameH (fun G9 hG9=> ?_)
       dsimp only at hG9
       have hl9:∀i,i<nx→i≠sid→G9 i=H i:=fun i hi hne=>by rw[←hG9];simp(disch:=omega) only[upd_ne,dl_ne];exact hlq i hi hne
       have h09:G9 nx=some [.i .i64 0,.nl]:=by rw[←hG9];simp(disch:=omega) only[upd_ne,dl_ne];exact h0q
       have hg9:srcOk bs sid G9:=hgq.keep (by rw[←hG9];simp(disch:=omega) only[upd_ne,dl_ne])
       refine AW.regionL envOk ?_
       simp-dsimp-implicitDefEqProofs (disch:=(first|omega|((repeat refine LC.upd (by omega) ?_);assumption))) only[go_sem,undef,w64]
       refine⟨(q-1,G9,.h (m3+4) 0 (W.length+1),W++[w]),?_,fun _ _ h=>h,?_,?_⟩
       ·simp(disch:=omega) [wks,wkA,sl,w64]<;>omega
       ·have hmk:LC G9 (bx+1) (m3+7+3) (.h (m3+4) 0 (W.length+1)) ((W++[w]).map ints):=LC.mk (by rw[←hG9];simp(disch:=omega) only[upd_ne,upd_same];simp) (by simp) (by omega) (by omega)
        have hb9:G9 bx=some [.i .i64 g,.h (m3+4) 0 (W.length+1)]:=by rw[←hG9];simp(disch:=omega) only[upd_ne,upd_same]
        have hW9:∀z∈W++[w],z.length≤1000:=app_all hW (by omega)
        first|exact⟨⟨by simp;omega,by first|omega|(simp only;omega)|(dsimp only;omega)⟩,⟨hmk,hW9⟩,hb9,hg9,hl9,h09⟩|exact⟨by simp;omega,⟨hmk,hW9⟩,hb9,hg9,hl9,h09⟩
       ·first|omega|(simp only;omega)
     ·try simp only[cn]at h8
      refine AW.exit ?_
      simp only[thn,blk,if_true]
      refine hN9 _ ?_
      try clear hN9 N9
      have hLc:=hL.cells
      refine AW.sr envOk (fun N hN=> ?_)
      simp-dsimp-implicitDefEqProofs (disch:=(first|omega|((repeat refine LC.upd (by omega) ?_);assumption))) only[go_sem,undef,w64,hbb,h0,hLo,hLc,Bool.and_true]
      refine hN _ ?_
      try clear hN N
      refine AW.ret ?_
      simp-dsimp-implicitDefEqProofs (disch:=(first|omega|((repeat refine LC.upd (by omega) ?_);assumption))) only[go_sem,undef]
      exact⟨_,fun _ _ h=>h,_,_,fzh_refl,.refl _,⟨g,L,W,rfl,(LC.upd (by omega) hL).wide (by omega) (by omega),⟨by omega,fun w hw=>by have:=hW w hw;omega⟩,by omega⟩,hg.keep (upd_ne _ _ (by omega)),fun i hi hne=>(upd_ne _ _ (by omega)).trans (hl i hi hne)⟩
theorem spec_l27Draw_n {bs:List Int} {sid:Nat} {H:HP} (hg:srcOk bs sid H) (nx:Nat) (hsn:sid<nx):AC Tryz.prog 22 nx H [.q sid 0] (fun nx' H' r=>fpL nx nx' H' r∧srcOk bs sid H'∧∀i,i<nx→i≠sid→H' i=H i):=(spec_l27Draw_o hg nx hsn).frz fun nx' H' r ⟨H2,r2,g1,g2,g3⟩=>⟨H2,r2,g1,g2,g3⟩
end Go.Proofs.YtlcddiojeghfgaaGreatDoor
