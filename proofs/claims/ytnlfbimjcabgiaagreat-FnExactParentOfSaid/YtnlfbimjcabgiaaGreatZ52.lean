import Derived.Test.YtnlfbimjcabgiaaGreatZ50
import Derived.Test.YtnlfbimjcabgiaaGreatZ51
set_option linter.unusedVariables false
set_option linter.unusedSimpArgs false
namespace Go.Proofs.YtnlfbimjcabgiaaGreat
open Nat (reduceAdd reduceSub reduceGT reduceEqDiff reduceMul)
structure prssml (O:List Int) (X:List (List Int)) (Y:List (List (List Int))):Prop where
  o:O.length≤6
  x:rowslen X
  t:tot X≤1000000000000
  y:cubesml Y
theorem prssml.nil:prssml [] [] []:=⟨by simp,by refine⟨by simp,fun x hx=> ?_⟩;simp at hx,by simp[tot],.nil⟩
theorem tot_leI {xs:List (List Int)} {n:Nat} (h:∀x∈xs,x.length≤n):tot xs≤n*xs.length:=by
  induction xs with
  |nil=>simp[tot]
  | cons x xs ih=>
    have h1:=h x (by simp)
    have h2:=ih (fun y hy=>h y (by simp[hy]))
    simp only[tot,List.length_cons,Nat.mul_succ];omega
theorem quo_sml {os:List Int} {pw:List (List Int)} {cj:List (List (List Int))} {u:List V} (h6:os.length≤6):prssml (qoO os u) (qoP (pc os pw cj) u) (qoC (pc os pw cj) u):=by
  have hn:(pc os pw cj).n=os.length:=rfl
  have hf:=frU_len (n:=os.length) (u:=u) os.length
  have h1:∀x∈qoP (pc os pw cj) u,x.length≤6:=fun x hx=>by
    obtain⟨a,_,rfl⟩:=List.mem_map.1 hx
    rw[qoPr,pjL_len,hn];omega
  have hl:(qoP (pc os pw cj) u).length≤6:=by rw[qoP,List.length_map,hn];omega
  refine⟨by rw[qoO,List.length_map];omega,⟨by omega,fun x hx=>by have:=h1 x hx;omega⟩,?_,⟨by rw[qoC,List.length_map,List.length_range,hn];omega,fun x hx=> ?_⟩⟩
  · have:=tot_leI h1;omega
  · obtain⟨a,_,rfl⟩:=List.mem_map.1 hx
    refine⟨by rw[qoCl,List.length_map,List.length_drop,hn];omega,fun y hy=> ?_⟩
    obtain⟨k,_,rfl⟩:=List.mem_map.1 hy
    rw[qoCr,pjL_len,hn];omega
theorem paM_sml {os:List Int} {pw:List (List Int)} {cj:List (List (List Int))}:prssml (paM os pw cj).1.1 (paM os pw cj).1.2.1 (paM os pw cj).1.2.2:=by
  unfold paM
  split
  · next h=>
    split
    · exact quo_sml (cvC_z os pw cj h).1.1.1.1
    · exact .nil
  · exact .nil
theorem law_ParentOf (os:List Int) (pw:List (List Int)) (cj:List (List (List Int))) (h0:intsok os) (hpw:rowsok pw) (hcj:cubesok cj):ACp Tryz.prog 5 [prs os pw cj] (.b true):=by
 obtain⟨M,hM⟩:∃M,paM os pw cj=M:=⟨_,rfl⟩
 have ho:=h0.1
 refine ACp.intro' envOk Tryz.func5 rfl (by kernel_rfl) Tryz.ntmps5 Tryz.results5 (.b _) (fun nx=> ?_)
 refine AW.sr envOk (fun N hN=> ?_)
 simp-dsimp-implicitDefEqProofs (disch:=omega) only[go_sem,undef,prs,w64,resQ]
 refine hN _ ?_
 try clear hN N
 refine AW.freezeQ 1 nx _ rfl (upd_same _ _ _) ?_
 simp-dsimp-implicitDefEqProofs (disch:=omega) only[go_sem,undef]
 refine AW.sr envOk (fun N hN=> ?_)
 simp-dsimp-implicitDefEqProofs (disch:=omega) only[go_sem,undef,prs,w64,resQ]
 refine hN _ ?_
 try clear hN N
 refine AW.sr envOk (fun N hN=> ?_)
 simp-dsimp-implicitDefEqProofs (disch:=omega) only[go_sem,undef,prs,w64,resQ]
 refine AC.pure (.of (laws_szPresentation_ok os pw cj 1048576 (by omega) (by omega) h0 hpw hcj)) ?_
 try simp-dsimp-implicitDefEqProofs (disch:=omega) only[go_sem,undef,prs,w64,resQ]
 refine hN _ ?_
 try clear hN N
 refine AW.seq (fun N1 hN1=> ?_)
 refine AW.sr envOk (fun N hN=> ?_)
 simp-dsimp-implicitDefEqProofs (disch:=omega) only[go_sem,undef,prs,w64,resQ]
 refine hN _ ?_
 try clear hN N
 refine AW.cond rfl (fun h1=> ?_) (fun h1=> ?_)
 ·try simp only[cn]at h1
  refine AW.sr envOk (fun N hN=> ?_)
  simp-dsimp-implicitDefEqProofs (disch:=omega) only[go_sem,undef,prs,w64,resQ]
  refine hN _ ?_
  try clear hN N
  refine AW.ret ?_
  simp-dsimp-implicitDefEqProofs (disch:=omega) only[go_sem,undef]
  try (exfalso;first|omega|(simp_all;done))
 ·try simp only[cn]at h1
  obtain⟨hl,g1,g2⟩:=szP_mem (by omega) (by omega) h1
  have hlo:=hl.o
  have hto:=laws_toPresentation_ok os pw cj hlo g1 g2
  have hML:prssml M.1.1 M.1.2.1 M.1.2.2:=by rw[←hM];exact paM_sml
  have hmo:=hML.o
  have hspec:=spec_ParentOf_ok os pw cj hl
  have himpl:=impl_ParentOf_ok os pw cj hl
  rw[hM]at hspec himpl
  have heq:=laws_eqPresentation_r M.1.1 M.1.2.1 M.1.2.2 (by omega) hML.x hML.y.len
  refine AW.skip ?_
  simp only[thn,blk]
  refine hN1 _ ?_
  try clear hN1 N1
  refine AW.sr envOk (fun N hN=> ?_)
  simp-dsimp-implicitDefEqProofs (disch:=omega) only[go_sem,undef,prs,w64,resQ]
  refine AC.pure (.of (hto.pure)) ?_
  try simp-dsimp-implicitDefEqProofs (disch:=omega) only[go_sem,undef,prs,w64,resQ]
  refine AC.pure (.of (hspec)) ?_
  try simp-dsimp-implicitDefEqProofs (disch:=omega) only[go_sem,undef,prs,w64,resQ]
  refine hN _ ?_
  try clear hN N
  refine AW.freezeQ 4 (nx+2+1+4+2+6) _ rfl (upd_same _ _ _) ?_
  simp-dsimp-implicitDefEqProofs (disch:=omega) only[go_sem,undef]
  refine AW.sr envOk (fun N hN=> ?_)
  simp-dsimp-implicitDefEqProofs (disch:=omega) only[go_sem,undef,prs,w64,resQ]
  refine AC.hold hto (.cons (.refl _) .nil) ?_
  intro m4 H4 r_r hm4 hH4 ho_r
  obtain⟨r1,r2,r3,rfl,⟨u1,u2,u3⟩,ho_r⟩:=ho_r.prs
  try simp-dsimp-implicitDefEqProofs (disch:=omega) only[go_sem,undef,u1,u2,u3]
  refine hN _ ?_
  try clear hN N
  refine AW.freezeQ 6 (nx+2+1+4+2+9+2) _ rfl (upd_same _ _ _) ?_
  refine AW.nameH (fun G6 hG6=> ?_)
  dsimp only at hG6
  replace ho_r:=ho_r.keep (H':=G6) (fun i q1 q2=>by rw[←hG6];simp(disch:=omega) only[upd_ne])
  simp-dsimp-implicitDefEqProofs (disch:=omega) only[go_sem,undef]
  refine AW.sr envOk (fun N hN=> ?_)
  simp-dsimp-implicitDefEqProofs (disch:=omega) only[go_sem,undef,prs,w64,resQ]
  refine AC.hold himpl (.cons ho_r.vw .nil) ?_
  intro m5 H5 r_z hm5 hH5 ho_z
  replace ho_r:=ho_r.keep (fun i q1 q2=>hH5 i (by omega))
  obtain⟨g0,rfl,hg⟩:=ho_z.pair
  obtain⟨s1,s2,s3,rfl,⟨v1,v2,v3⟩,hg⟩:=hg.prs
  clear ho_z
  try simp-dsimp-implicitDefEqProofs (disch:=omega) only[go_sem,undef,v1,v2,v3]
  refine hN _ ?_
  try clear hN N
  refine AW.seq (fun N2 hN2=> ?_)
  refine AW.freezeQ 7 (m4+5) _ rfl (upd_same _ _ _) ?_
  refine AW.nameH (fun G8 hG8=> ?_)
  dsimp only at hG8
  replace ho_r:=ho_r.keep (H':=G8) (fun i q1 q2=>by rw[←hG8];simp(disch:=omega) only[upd_ne])
  replace hg:=hg.keep (H':=G8) (fun i q1 q2=>by rw[←hG8];simp(disch:=omega) only[upd_ne])
  simp-dsimp-implicitDefEqProofs (disch:=omega) only[go_sem,undef]
  refine AW.sr envOk (fun N hN=> ?_)
  simp-dsimp-implicitDefEqProofs (disch:=omega) only[go_sem,undef,prs,w64,resQ]
  refine AC.pure (.lent (heq) (.cons hg.vw (.cons (.refl _) .nil)) (.b _)) ?_
  try simp-dsimp-implicitDefEqProofs (disch:=omega) only[go_sem,undef,prs,w64,resQ]
  refine gopB.mk' (fun h2=> ?_) (fun h2=> ?_)
  ·try simp only[cn]at h2
   try simp-dsimp-implicitDefEqProofs (disch:=omega) only[go_sem,undef,prs,w64,resQ]
   refine hN _ ?_
   try clear hN N
   refine AW.cond rfl (fun h3=> ?_) (fun h3=> ?_)
   ·try simp only[cn]at h3
    refine AW.sr envOk (fun N hN=> ?_)
    simp-dsimp-implicitDefEqProofs (disch:=omega) only[go_sem,undef,prs,w64,resQ]
    refine hN _ ?_
    try clear hN N
    refine AW.ret ?_
    simp-dsimp-implicitDefEqProofs (disch:=omega) only[go_sem,undef]
    try (exfalso;first|omega|(simp_all;done))
   ·try simp only[cn]at h3
    refine AW.skip ?_
    simp only[thn,blk]
    refine hN2 _ ?_
    try clear hN2 N2
    refine AW.seq (fun N3 hN3=> ?_)
    refine AW.seq (fun N hN=> ?_)
    refine AW.drawL envOk (by kernel_rfl) 5 (by kernel_rfl) ?_
    simp-dsimp-implicitDefEqProofs (disch:=omega) only[hr_nil,hr_one,hr_if,List.take_succ_cons,List.take_zero,List.drop_succ_cons,List.drop_zero,List.take_nil,List.drop_nil,go_sem,undef,prs,w64,resQ]
    refine⟨_,.of (hto.pure),?_⟩
    try simp-dsimp-implicitDefEqProofs (disch:=omega) only[go_sem,undef,prs,w64,resQ]
    refine⟨_,.lent (laws_eqPresentation_ok os os pw pw cj cj (by omega) (by omega) hpw hpw hcj hcj) (.cons ho_r.vw (.cons (.refl _) .nil)) (.b _),?_⟩
    try simp-dsimp-implicitDefEqProofs (disch:=omega) only[go_sem,undef,prs,w64,resQ]
    refine hN _ ?_
    try clear hN N
    refine AW.cond rfl (fun h4=> ?_) (fun h4=> ?_)
    ·try simp only[cn]at h4
     refine AW.sr envOk (fun N hN=> ?_)
     simp-dsimp-implicitDefEqProofs (disch:=omega) only[go_sem,undef,prs,w64,resQ]
     refine hN _ ?_
     try clear hN N
     refine AW.ret ?_
     simp-dsimp-implicitDefEqProofs (disch:=omega) only[go_sem,undef]
     try (exfalso;first|omega|(simp_all;done))
    ·try simp only[cn]at h4
     refine AW.skip ?_
     simp only[thn,blk]
     refine hN3 _ ?_
     try clear hN3 N3
     refine AW.sr envOk (fun N hN=> ?_)
     simp-dsimp-implicitDefEqProofs (disch:=omega) only[go_sem,undef,prs,w64,resQ]
     refine hN _ ?_
     try clear hN N
     refine AW.sr envOk (fun N hN=> ?_)
     simp-dsimp-implicitDefEqProofs (disch:=omega) only[go_sem,undef,prs,w64,resQ]
     refine(markP_g hlo g1 g2 ho_r (by omega) (by omega) (by omega)).mono2 ?_
     rintro m9 H9 res hm9 ⟨k9,rfl,hk9,hH9⟩
     replace hg:=hg.keep (fun i q1 q2=>hH9 i (by omega))
     try simp-dsimp-implicitDefEqProofs (disch:=omega) only[go_sem,undef,prs,w64,resQ]
     refine hN _ ?_
     try clear hN N
     refine AW.seq (fun N4 hN4=> ?_)
     refine AW.sr envOk (fun N hN=> ?_)
     simp-dsimp-implicitDefEqProofs (disch:=omega) only[go_sem,undef,prs,w64,resQ]
     refine gopB.mk' (fun h5=> ?_) (fun h5=> ?_)
     ·try simp only[cn]at h5
      try simp-dsimp-implicitDefEqProofs (disch:=omega) only[go_sem,undef,prs,w64,resQ]
      refine AC.pure (.lent (heq) (.cons hg.vw (.cons (.refl _) .nil)) (.b _)) ?_
      try simp-dsimp-implicitDefEqProofs (disch:=omega) only[go_sem,undef,prs,w64,resQ]
      refine gopB.mk' (fun h6=> ?_) (fun h6=> ?_)
      ·try simp only[cn]at h6
       try simp-dsimp-implicitDefEqProofs (disch:=omega) only[go_sem,undef,prs,w64,resQ]
       refine hN _ ?_
       try clear hN N
       refine AW.cond rfl (fun h7=> ?_) (fun h7=> ?_)
       ·try simp only[cn]at h7
        refine AW.sr envOk (fun N hN=> ?_)
        simp-dsimp-implicitDefEqProofs (disch:=omega) only[go_sem,undef,prs,w64,resQ]
        refine hN _ ?_
        try clear hN N
        refine AW.ret ?_
        simp-dsimp-implicitDefEqProofs (disch:=omega) only[go_sem,undef]
        try (exfalso;first|omega|(simp_all;done))
       ·try simp only[cn]at h7
        refine AW.skip ?_
        simp only[thn,blk]
        refine hN4 _ ?_
        try clear hN4 N4
        refine AW.sr envOk (fun N hN=> ?_)
        simp-dsimp-implicitDefEqProofs (disch:=omega) only[go_sem,undef,prs,w64,resQ]
        refine hN _ ?_
        try clear hN N
        refine AW.sr envOk (fun N hN=> ?_)
        simp-dsimp-implicitDefEqProofs (disch:=omega) only[go_sem,undef,prs,w64,resQ]
        refine(markP_m (by omega) hML.x hML.y hML.t hg (by omega) (by omega) (by omega)).mono2 ?_
        rintro m11 H11 res hm11 ⟨rfl,hg2,hH11⟩
        try simp-dsimp-implicitDefEqProofs (disch:=omega) only[go_sem,undef,prs,w64,resQ]
        refine hN _ ?_
        try clear hN N
        refine AW.sr envOk (fun N hN=> ?_)
        simp-dsimp-implicitDefEqProofs (disch:=omega) only[go_sem,undef,prs,w64,resQ]
        refine hN _ ?_
        try clear hN N
        refine AW.sr envOk (fun N hN=> ?_)
        simp-dsimp-implicitDefEqProofs (disch:=omega) only[go_sem,undef,prs,w64,resQ]
        refine AC.pure (.lent (heldP_g (by omega) hML.x hML.y hML.t (by omega) (by omega)) (.cons hg2.vw (.cons (.refl _) .nil)) (.i _ _)) ?_
        try simp-dsimp-implicitDefEqProofs (disch:=omega) only[go_sem,undef,prs,w64,resQ]
        refine hN _ ?_
        try clear hN N
        refine AW.seq (fun N5 hN5=> ?_)
        refine AW.sr envOk (fun N hN=> ?_)
        simp-dsimp-implicitDefEqProofs (disch:=omega) only[go_sem,undef,prs,w64,resQ]
        refine hN _ ?_
        try clear hN N
        refine AW.cond rfl (fun h8=> ?_) (fun h8=> ?_)
        ·try simp only[cn]at h8
         refine AW.sr envOk (fun N hN=> ?_)
         simp-dsimp-implicitDefEqProofs (disch:=omega) only[go_sem,undef,prs,w64,resQ]
         refine hN _ ?_
         try clear hN N
         refine AW.ret ?_
         simp-dsimp-implicitDefEqProofs (disch:=omega) only[go_sem,undef]
         try (exfalso;first|omega|(simp_all;done))
        ·try simp only[cn]at h8
         refine AW.skip ?_
         simp only[thn,blk]
         refine hN5 _ ?_
         try clear hN5 N5
         refine AW.seq (fun N6 hN6=> ?_)
         refine AW.sr envOk (fun N hN=> ?_)
         simp-dsimp-implicitDefEqProofs (disch:=omega) only[go_sem,undef,prs,w64,resQ]
         refine hN _ ?_
         try clear hN N
         refine AW.cond rfl (fun h9=> ?_) (fun h9=> ?_)
         ·try simp only[cn]at h9
          refine AW.sr envOk (fun N hN=> ?_)
          simp-dsimp-implicitDefEqProofs (disch:=omega) only[go_sem,undef,prs,w64,resQ]
          refine hN _ ?_
          try clear hN N
          refine AW.ret ?_
          simp-dsimp-implicitDefEqProofs (disch:=omega) only[go_sem,undef]
          try (exfalso;first|omega|(simp_all;done))
         ·try simp only[cn]at h9
          refine AW.skip ?_
          simp only[thn,blk]
          refine hN6 _ ?_
          try clear hN6 N6
          refine AW.sr envOk (fun N hN=> ?_)
          simp-dsimp-implicitDefEqProofs (disch:=omega) only[go_sem,undef,prs,w64,resQ]
          refine AC.pure (.of (hto.pure)) ?_
          try simp-dsimp-implicitDefEqProofs (disch:=omega) only[go_sem,undef,prs,w64,resQ]
          refine AC.pure (.of (himpl.pure)) ?_
          try simp-dsimp-implicitDefEqProofs (disch:=omega) only[go_sem,undef,prs,w64,resQ]
          refine hN _ ?_
          try clear hN N
          refine AW.seq (fun N7 hN7=> ?_)
          refine AW.freezeQ 12 (m11+1+4+2+3+6) _ rfl (upd_same _ _ _) ?_
          refine AW.nameH (fun G9 hG9=> ?_)
          dsimp only at hG9
          replace hg2:=hg2.keep (H':=G9) (fun i q1 q2=>by rw[←hG9];simp(disch:=omega) only[upd_ne])
          simp-dsimp-implicitDefEqProofs (disch:=omega) only[go_sem,undef]
          refine AW.sr envOk (fun N hN=> ?_)
          simp-dsimp-implicitDefEqProofs (disch:=omega) only[go_sem,undef,prs,w64,resQ]
          refine AC.pure (.of (heq)) ?_
          try simp-dsimp-implicitDefEqProofs (disch:=omega) only[go_sem,undef,prs,w64,resQ]
          refine gopB.mk' (fun h10=> ?_) (fun h10=> ?_)
          ·try simp only[cn]at h10
           try simp-dsimp-implicitDefEqProofs (disch:=omega) only[go_sem,undef,prs,w64,resQ]
           refine hN _ ?_
           try clear hN N
           refine AW.cond rfl (fun h11=> ?_) (fun h11=> ?_)
           ·try simp only[cn]at h11
            refine AW.sr envOk (fun N hN=> ?_)
            simp-dsimp-implicitDefEqProofs (disch:=omega) only[go_sem,undef,prs,w64,resQ]
            refine hN _ ?_
            try clear hN N
            refine AW.ret ?_
            simp-dsimp-implicitDefEqProofs (disch:=omega) only[go_sem,undef]
            try (exfalso;first|omega|(simp_all;done))
           ·try simp only[cn]at h11
            refine AW.skip ?_
            simp only[thn,blk]
            refine hN7 _ ?_
            try clear hN7 N7
            refine AW.sr envOk (fun N hN=> ?_)
            simp-dsimp-implicitDefEqProofs (disch:=omega) only[go_sem,undef,prs,w64,resQ]
            refine hN _ ?_
            try clear hN N
            refine AW.sr envOk (fun N hN=> ?_)
            simp-dsimp-implicitDefEqProofs (disch:=omega) only[go_sem,undef,prs,w64,resQ]
            refine AC.pure (.lent (heldP_g (by omega) hML.x hML.y hML.t (by omega) (by omega)) (.cons hg2.vw (.cons (.refl _) .nil)) (.i _ _)) ?_
            try simp-dsimp-implicitDefEqProofs (disch:=omega) only[go_sem,undef,prs,w64,resQ]
            refine hN _ ?_
            try clear hN N
            refine AW.seq (fun N8 hN8=> ?_)
            refine AW.sr envOk (fun N hN=> ?_)
            simp-dsimp-implicitDefEqProofs (disch:=omega) only[go_sem,undef,prs,w64,resQ]
            refine hN _ ?_
            try clear hN N
            refine AW.cond rfl (fun h12=> ?_) (fun h12=> ?_)
            ·try simp only[cn]at h12
             refine AW.sr envOk (fun N hN=> ?_)
             simp-dsimp-implicitDefEqProofs (disch:=omega) only[go_sem,undef,prs,w64,resQ]
             refine hN _ ?_
             try clear hN N
             refine AW.ret ?_
             simp-dsimp-implicitDefEqProofs (disch:=omega) only[go_sem,undef]
             try (exfalso;first|omega|(simp_all;done))
            ·try simp only[cn]at h12
             refine AW.skip ?_
             simp only[thn,blk]
             refine hN8 _ ?_
             try clear hN8 N8
             refine AW.seq (fun N9 hN9=> ?_)
             refine AW.sr envOk (fun N hN=> ?_)
             simp-dsimp-implicitDefEqProofs (disch:=omega) only[go_sem,undef,prs,w64,resQ]
             refine hN _ ?_
             try clear hN N
             refine AW.cond rfl (fun h13=> ?_) (fun h13=> ?_)
             ·try simp only[cn]at h13
              refine AW.sr envOk (fun N hN=> ?_)
              simp-dsimp-implicitDefEqProofs (disch:=omega) only[go_sem,undef,prs,w64,resQ]
              refine hN _ ?_
              try clear hN N
              refine AW.ret ?_
              simp-dsimp-implicitDefEqProofs (disch:=omega) only[go_sem,undef]
              try (exfalso;first|omega|(simp_all;done))
             ·try simp only[cn]at h13
              refine AW.skip ?_
              simp only[thn,blk]
              refine hN9 _ ?_
              try clear hN9 N9
              refine AW.sr envOk (fun N hN=> ?_)
              simp-dsimp-implicitDefEqProofs (disch:=omega) only[go_sem,undef,prs,w64,resQ]
              refine hN _ ?_
              try clear hN N
              refine AW.ret ?_
              simp-dsimp-implicitDefEqProofs (disch:=omega) only[go_sem,undef]
              try (exfalso;first|omega|(simp_all;done))
          ·try simp only[cn]at h10
           try simp-dsimp-implicitDefEqProofs (disch:=omega) only[go_sem,undef,prs,w64,resQ]
           refine hN _ ?_
           try clear hN N
           refine AW.condT rfl ?_
           refine AW.sr envOk (fun N hN=> ?_)
           simp-dsimp-implicitDefEqProofs (disch:=omega) only[go_sem,undef,prs,w64,resQ]
           refine hN _ ?_
           try clear hN N
           refine AW.ret ?_
           simp-dsimp-implicitDefEqProofs (disch:=omega) only[go_sem,undef]
           try (exfalso;first|omega|(simp_all;done))
      ·try simp only[cn]at h6
       try simp-dsimp-implicitDefEqProofs (disch:=omega) only[go_sem,undef,prs,w64,resQ]
       refine hN _ ?_
       try clear hN N
       refine AW.condT rfl ?_
       refine AW.sr envOk (fun N hN=> ?_)
       simp-dsimp-implicitDefEqProofs (disch:=omega) only[go_sem,undef,prs,w64,resQ]
       refine hN _ ?_
       try clear hN N
       refine AW.ret ?_
       simp-dsimp-implicitDefEqProofs (disch:=omega) only[go_sem,undef]
       try (exfalso;first|omega|(simp_all;done))
     ·try simp only[cn]at h5
      try simp-dsimp-implicitDefEqProofs (disch:=omega) only[go_sem,undef,prs,w64,resQ]
      refine hN _ ?_
      try clear hN N
      refine AW.condT rfl ?_
      refine AW.sr envOk (fun N hN=> ?_)
      simp-dsimp-implicitDefEqProofs (disch:=omega) only[go_sem,undef,prs,w64,resQ]
      refine hN _ ?_
      try clear hN N
      refine AW.ret ?_
      simp-dsimp-implicitDefEqProofs (disch:=omega) only[go_sem,undef]
      try (exfalso;first|omega|(simp_all;done))
  ·try simp only[cn]at h2
   try simp-dsimp-implicitDefEqProofs (disch:=omega) only[go_sem,undef,prs,w64,resQ]
   refine hN _ ?_
   try clear hN N
   refine AW.condT rfl ?_
   refine AW.sr envOk (fun N hN=> ?_)
   simp-dsimp-implicitDefEqProofs (disch:=omega) only[go_sem,undef,prs,w64,resQ]
   refine hN _ ?_
   try clear hN N
   refine AW.ret ?_
   simp-dsimp-implicitDefEqProofs (disch:=omega) only[go_sem,undef]
   try (exfalso;first|omega|(simp_all;done))
end Go.Proofs.YtnlfbimjcabgiaaGreat
