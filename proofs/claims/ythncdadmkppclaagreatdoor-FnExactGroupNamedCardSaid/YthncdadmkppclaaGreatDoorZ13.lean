import Derived.Test.YthncdadmkppclaaGreatDoorZ12
set_option linter.unusedVariables false
set_option linter.unusedSimpArgs false
namespace Go.Proofs.YthncdadmkppclaaGreatDoor
open Nat (reduceAdd reduceSub reduceGT reduceEqDiff reduceMul)
theorem spec_l01Zero_ok (a:List Int) (ha':a.length≤1099511627776):ACp Tryz.prog 53 [ints a] (.b (tf (zeros a))):=by
 refine ACp.intro' envOk Tryz.func53 rfl (by kernel_rfl) Tryz.ntmps53 Tryz.results53 (.b _) (fun nx cX=> ?_)
 refine AW.sr envOk (fun N hN=> ?_)
 simp-dsimp-implicitDefEqProofs (disch:=omega) only[go_sem,undef,ints,gd_i,w64]
 refine hN _ ?_
 try clear hN N
 refine AW.seq (fun N1 hN1=> ?_)
 refine AW.sr envOk (fun N hN=> ?_)
 simp-dsimp-implicitDefEqProofs (disch:=omega) only[go_sem,undef,ints,gd_i,w64]
 refine hN _ ?_
 try clear hN N
 refine AW.block ?_
 refine AW.loopN (α:=Nat) (fun x=>sl 15 [(0,ints a),(3,.i .i64 x)]) (fun _=>noH) (fun x m=>x≤a.length∧∀j,j<x→a.getD j 0=0) (fun x=>a.length-x) (0) ?_ ?_ (fun _ _ h=>h) ?_
 ·exact⟨by omega,by intro j hj;omega⟩
 ·simp(disch:=omega) [wks,wkA,sl,w64,ints,rows,cubes,ints,gd_i,w64]<;>omega
 ·skip
  rintro k m ⟨hk,hI⟩
  simp-dsimp-implicitDefEqProofs (disch:=omega) only[go_sem,undef]
  refine AW.seq (fun N2 hN2=> ?_)
  refine AW.sr envOk (fun N hN=> ?_)
  simp-dsimp-implicitDefEqProofs (disch:=omega) only[go_sem,undef,ints,gd_i,w64]
  refine hN _ ?_
  try clear hN N
  refine AW.cond rfl (fun h1=> ?_) (fun h1=> ?_)
  ·try simp only[cn]at h1
   refine AW.skip ?_
   simp only[thn,blk]
   refine hN2 _ ?_
   try clear hN2 N2
   refine AW.seq (fun N3 hN3=> ?_)
   refine AW.block ?_
   refine AW.sr envOk (fun N hN=> ?_)
   simp-dsimp-implicitDefEqProofs (disch:=omega) only[go_sem,undef,ints,gd_i,w64]
   refine hN _ ?_
   try clear hN N
   refine AW.cond rfl (fun h2=> ?_) (fun h2=> ?_)
   ·try simp only[cn]at h2
    refine AW.sr envOk (fun N hN=> ?_)
    simp-dsimp-implicitDefEqProofs (disch:=omega) only[go_sem,undef,ints,gd_i,w64]
    refine hN _ ?_
    try clear hN N
    refine AW.ret ?_
    simp-dsimp-implicitDefEqProofs (disch:=omega) only[go_sem,undef]
    exact bt (tf_f (fun h=>h2 (h k (by omega)))).symm
   ·try simp only[cn]at h2
    refine AW.skip ?_
    simp only[thn,blk]
    refine hN3 _ ?_
    try clear hN3 N3
    refine AW.regionL envOk ?_
    simp-dsimp-implicitDefEqProofs (disch:=omega) only[go_sem,undef,ints,gd_i,w64]
    refine⟨k+1,?_,fun _ _ h=>h,?_,?_⟩
    ·simp(disch:=omega) [wks,wkA,sl,w64,ints,rows,cubes,ints,gd_i,w64]<;>omega
    ·refine⟨by omega,fun j hj=> ?_⟩
     by_cases e:j=k
     ·subst e;exact h2
     ·exact hI j (by omega)
    ·first|omega|(simp only;omega)
  ·try simp only[cn]at h1
   refine AW.exit ?_
   simp only[thn,blk,if_true]
   refine hN1 _ ?_
   try clear hN1 N1
   refine AW.sr envOk (fun N hN=> ?_)
   simp-dsimp-implicitDefEqProofs (disch:=omega) only[go_sem,undef,ints,gd_i,w64]
   refine hN _ ?_
   try clear hN N
   refine AW.ret ?_
   simp-dsimp-implicitDefEqProofs (disch:=omega) only[go_sem,undef]
   exact bt (tf_t (fun j hj=>hI j (by omega))).symm
theorem spec_l01Same_ok (a b:List Int) (ha:a.length≤1099511627776) (hb:b.length≤1099511627776):ACp Tryz.prog 57 [ints a,ints b] (.b (tf (a=b))):=by
 refine ACp.intro' envOk Tryz.func57 rfl (by kernel_rfl) Tryz.ntmps57 Tryz.results57 (.b _) (fun nx cX=> ?_)
 refine AW.sr envOk (fun N hN=> ?_)
 simp-dsimp-implicitDefEqProofs (disch:=omega) only[go_sem,undef,ints,gd_i,w64]
 refine hN _ ?_
 try clear hN N
 refine AW.seq (fun N1 hN1=> ?_)
 refine AW.sr envOk (fun N hN=> ?_)
 simp-dsimp-implicitDefEqProofs (disch:=omega) only[go_sem,undef,ints,gd_i,w64]
 refine hN _ ?_
 try clear hN N
 refine AW.cond rfl (fun h1=> ?_) (fun h1=> ?_)
 ·try simp only[cn]at h1
  refine AW.sr envOk (fun N hN=> ?_)
  simp-dsimp-implicitDefEqProofs (disch:=omega) only[go_sem,undef,ints,gd_i,w64]
  refine hN _ ?_
  try clear hN N
  refine AW.ret ?_
  simp-dsimp-implicitDefEqProofs (disch:=omega) only[go_sem,undef]
  exact bt (tf_f (fun e=>h1 (by rw[e]))).symm
 ·try simp only[cn]at h1
  have hl:a.length=b.length:=by omega
  refine AW.skip ?_
  simp only[thn,blk]
  refine hN1 _ ?_
  try clear hN1 N1
  refine AW.seq (fun N2 hN2=> ?_)
  refine AW.sr envOk (fun N hN=> ?_)
  simp-dsimp-implicitDefEqProofs (disch:=omega) only[go_sem,undef,ints,gd_i,w64]
  refine hN _ ?_
  try clear hN N
  refine AW.block ?_
  refine AW.loopN (α:=Nat) (fun x=>sl 26 [(0,ints a),(1,ints b),(5,.i .i64 x)]) (fun _=>noH) (fun x m=>x≤a.length∧a.take x=b.take x) (fun x=>a.length-x) (0) ?_ ?_ (fun _ _ h=>h) ?_
  ·exact⟨by omega,rfl⟩
  ·simp(disch:=omega) [wks,wkA,sl,w64,ints,rows,cubes,ints,gd_i,w64]<;>omega
  ·skip
   rintro k m ⟨hk,he⟩
   simp-dsimp-implicitDefEqProofs (disch:=omega) only[go_sem,undef]
   refine AW.seq (fun N3 hN3=> ?_)
   refine AW.sr envOk (fun N hN=> ?_)
   simp-dsimp-implicitDefEqProofs (disch:=omega) only[go_sem,undef,ints,gd_i,w64]
   refine hN _ ?_
   try clear hN N
   refine AW.cond rfl (fun h2=> ?_) (fun h2=> ?_)
   ·try simp only[cn]at h2
    refine AW.skip ?_
    simp only[thn,blk]
    refine hN3 _ ?_
    try clear hN3 N3
    refine AW.seq (fun N4 hN4=> ?_)
    refine AW.block ?_
    refine AW.seq (fun N hN=> ?_)
    refine AW.drawL envOk (by kernel_rfl) 9 (by kernel_rfl) ?_
    simp-dsimp-implicitDefEqProofs (disch:=omega) only[hr_nil,hr_one,hr_if,List.take_succ_cons,List.take_zero,List.drop_succ_cons,List.drop_zero,List.take_nil,List.drop_nil,go_sem,undef,ints,gd_i,w64]
    refine hN _ ?_
    try clear hN N
    refine AW.cond rfl (fun h3=> ?_) (fun h3=> ?_)
    ·try simp only[cn]at h3
     refine AW.sr envOk (fun N hN=> ?_)
     simp-dsimp-implicitDefEqProofs (disch:=omega) only[go_sem,undef,ints,gd_i,w64]
     refine hN _ ?_
     try clear hN N
     refine AW.ret ?_
     simp-dsimp-implicitDefEqProofs (disch:=omega) only[go_sem,undef]
     exact bt (tf_f (fun e=>h3 (by rw[e]))).symm
    ·try simp only[cn]at h3
     refine AW.skip ?_
     simp only[thn,blk]
     refine hN4 _ ?_
     try clear hN4 N4
     refine AW.regionL envOk ?_
     simp-dsimp-implicitDefEqProofs (disch:=omega) only[go_sem,undef,ints,gd_i,w64]
     refine⟨k+1,?_,fun _ _ h=>h,?_,?_⟩
     ·simp(disch:=omega) [wks,wkA,sl,w64,ints,rows,cubes,ints,gd_i,w64]<;>omega
     ·exact⟨by omega,take_ext 0 hl (by omega) he h3⟩
     ·first|omega|(simp only;omega)
   ·try simp only[cn]at h2
    refine AW.exit ?_
    simp only[thn,blk,if_true]
    refine hN2 _ ?_
    try clear hN2 N2
    refine AW.sr envOk (fun N hN=> ?_)
    simp-dsimp-implicitDefEqProofs (disch:=omega) only[go_sem,undef,ints,gd_i,w64]
    refine hN _ ?_
    try clear hN N
    refine AW.ret ?_
    simp-dsimp-implicitDefEqProofs (disch:=omega) only[go_sem,undef]
    rw[show k=a.length by omega,List.take_length,hl,List.take_length]at he
    exact bt (tf_t he).symm
theorem slices_Equal_int64_int64_ok (a b:List Int) (ha:a.length≤1099511627776) (hb:b.length≤1099511627776):ACp Tryz.prog 81 [ints a,ints b] (.b (tf (a=b))):=by
 refine ACp.intro' envOk Tryz.func81 rfl (by kernel_rfl) Tryz.ntmps81 Tryz.results81 (.b _) (fun nx cX=> ?_)
 refine AW.sr envOk (fun N hN=> ?_)
 simp-dsimp-implicitDefEqProofs (disch:=omega) only[go_sem,undef,ints,gd_i,w64]
 refine hN _ ?_
 try clear hN N
 refine AW.seq (fun N1 hN1=> ?_)
 refine AW.sr envOk (fun N hN=> ?_)
 simp-dsimp-implicitDefEqProofs (disch:=omega) only[go_sem,undef,ints,gd_i,w64]
 refine hN _ ?_
 try clear hN N
 refine AW.cond rfl (fun h1=> ?_) (fun h1=> ?_)
 ·try simp only[cn]at h1
  refine AW.sr envOk (fun N hN=> ?_)
  simp-dsimp-implicitDefEqProofs (disch:=omega) only[go_sem,undef,ints,gd_i,w64]
  refine hN _ ?_
  try clear hN N
  refine AW.ret ?_
  simp-dsimp-implicitDefEqProofs (disch:=omega) only[go_sem,undef]
  exact bt (tf_f (fun e=>h1 (by rw[e]))).symm
 ·try simp only[cn]at h1
  have hl:a.length=b.length:=by omega
  refine AW.skip ?_
  simp only[thn,blk]
  refine hN1 _ ?_
  try clear hN1 N1
  refine AW.seq (fun N2 hN2=> ?_)
  refine AW.sr envOk (fun N hN=> ?_)
  simp-dsimp-implicitDefEqProofs (disch:=omega) only[go_sem,undef,ints,gd_i,w64]
  refine hN _ ?_
  try clear hN N
  refine AW.block ?_
  refine AW.loopN (α:=Nat) (fun x=>sl 26 [(0,ints a),(1,ints b),(12,.i .i64 a.length),(13,.i .i64 x)]) (fun _=>noH) (fun x m=>x≤a.length∧a.take x=b.take x) (fun x=>a.length-x) (0) ?_ ?_ (fun _ _ h=>h) ?_
  ·exact⟨by omega,rfl⟩
  ·simp(disch:=omega) [wks,wkA,sl,w64,ints,rows,cubes,ints,gd_i,w64]<;>omega
  ·skip
   rintro k m ⟨hk,he⟩
   simp-dsimp-implicitDefEqProofs (disch:=omega) only[go_sem,undef]
   refine AW.sr envOk (fun N hN=> ?_)
   simp-dsimp-implicitDefEqProofs (disch:=omega) only[go_sem,undef,ints,gd_i,w64]
   refine hN _ ?_
   try clear hN N
   refine AW.seq (fun N3 hN3=> ?_)
   refine AW.cond rfl (fun h2=> ?_) (fun h2=> ?_)
   ·try simp only[cn]at h2
    refine AW.skip ?_
    simp only[thn,blk]
    refine hN3 _ ?_
    try clear hN3 N3
    refine AW.seq (fun N4 hN4=> ?_)
    refine AW.block ?_
    refine AW.sr envOk (fun N hN=> ?_)
    simp-dsimp-implicitDefEqProofs (disch:=omega) only[go_sem,undef,ints,gd_i,w64]
    refine hN _ ?_
    try clear hN N
    refine AW.seq (fun N hN=> ?_)
    refine AW.drawL envOk (by kernel_rfl) 9 (by kernel_rfl) ?_
    simp-dsimp-implicitDefEqProofs (disch:=omega) only[hr_nil,hr_one,hr_if,List.take_succ_cons,List.take_zero,List.drop_succ_cons,List.drop_zero,List.take_nil,List.drop_nil,go_sem,undef,ints,gd_i,w64]
    refine hN _ ?_
    try clear hN N
    refine AW.cond rfl (fun h3=> ?_) (fun h3=> ?_)
    ·try simp only[cn]at h3
     refine AW.sr envOk (fun N hN=> ?_)
     simp-dsimp-implicitDefEqProofs (disch:=omega) only[go_sem,undef,ints,gd_i,w64]
     refine hN _ ?_
     try clear hN N
     refine AW.ret ?_
     simp-dsimp-implicitDefEqProofs (disch:=omega) only[go_sem,undef]
     exact bt (tf_f (fun e=>h3 (by rw[e]))).symm
    ·try simp only[cn]at h3
     refine AW.skip ?_
     simp only[thn,blk]
     refine hN4 _ ?_
     try clear hN4 N4
     refine AW.regionL envOk ?_
     simp-dsimp-implicitDefEqProofs (disch:=omega) only[go_sem,undef,ints,gd_i,w64]
     refine⟨k+1,?_,fun _ _ h=>h,?_,?_⟩
     ·simp(disch:=omega) [wks,wkA,sl,w64,ints,rows,cubes,ints,gd_i,w64]<;>omega
     ·exact⟨by omega,take_ext 0 hl (by omega) he h3⟩
     ·first|omega|(simp only;omega)
   ·try simp only[cn]at h2
    refine AW.exit ?_
    simp only[thn,blk,if_true]
    refine hN2 _ ?_
    try clear hN2 N2
    refine AW.sr envOk (fun N hN=> ?_)
    simp-dsimp-implicitDefEqProofs (disch:=omega) only[go_sem,undef,ints,gd_i,w64]
    refine hN _ ?_
    try clear hN N
    refine AW.ret ?_
    simp-dsimp-implicitDefEqProofs (disch:=omega) only[go_sem,undef]
    rw[show k=a.length by omega,List.take_length,hl,List.take_length]at he
    exact bt (tf_t he).symm
def Flt (n:Nat) (P:Nat→Nat→Prop) (J:Nat→Nat→Nat→Prop) (t:Int×Int×Int×Int):Prop:=
  (∃a b:Nat,t=(1,(a:Int),(b:Int),0)∧a<n∧b<n∧P a b∧∀a' b',b'<n→(a'<a∨(a'=a∧b'<b))→¬P a' b')∨
  ((∀a b,a<n→b<n→¬P a b)∧((∃a b c:Nat,t=(2,(a:Int),(b:Int),(c:Int))∧a<b∧b<c∧c<n∧J a b c∧∀a' b' c',a'<b'→b'<c'→c'<n→(a'<a∨(a'=a∧(b'<b∨(b'=b∧c'<c))))→¬J a' b' c')∨
    (t=(0,0,0,0)∧∀a b c,a<b→b<c→c<n→¬J a b c)))
theorem Flt.uniq {n:Nat} {P:Nat→Nat→Prop} {J:Nat→Nat→Nat→Prop} {t t':Int×Int×Int×Int} (h:Flt n P J t) (h':Flt n P J t'):t=t':=by
  rcases h with ⟨a,b,rfl,ha,hb,hp,hf⟩|⟨hn,h⟩
  · rcases h' with ⟨a',b',rfl,ha',hb',hp',hf'⟩|⟨hn',h'⟩
    · have h1:a=a'∧b=b':=by
        apply Classical.byContradiction
        intro hne
        by_cases hlt:a<a'∨(a=a'∧b<b')
        · exact hf' a b hb hlt hp
        · exact hf a' b' hb' (by omega) hp'
      rw[h1.1,h1.2]
    · exact absurd hp (hn' a b ha hb)
  · rcases h' with ⟨a',b',rfl,ha',hb',hp',hf'⟩|⟨hn',h'⟩
    · exact absurd hp' (hn a' b' ha' hb')
    · rcases h with ⟨a,b,c,rfl,h1,h2,h3,hj,hf⟩|⟨rfl,hz⟩
      · rcases h' with ⟨a',b',c',rfl,h1',h2',h3',hj',hf'⟩|⟨rfl,hz'⟩
        · have h4:a=a'∧b=b'∧c=c':=by
            apply Classical.byContradiction
            intro hne
            by_cases hlt:a<a'∨(a=a'∧(b<b'∨(b=b'∧c<c')))
            · exact hf' a b c h1 h2 h3 hlt hj
            · exact hf a' b' c' h1' h2' h3' (by omega) hj'
          rw[h4.1,h4.2.1,h4.2.2]
        · exact absurd hj (hz' a b c h1 h2 h3)
      · rcases h' with ⟨a',b',c',rfl,h1',h2',h3',hj',hf'⟩|⟨rfl,hz'⟩
        · exact absurd hj' (hz a' b' c' h1' h2' h3')
        · rfl
theorem least {P:Nat→Prop} (h:∃n,P n):∃n,P n∧∀m,m<n→¬P m:=by
  apply Classical.byContradiction
  intro hc
  have:∀n,¬P n:=by
    intro n
    induction n using Nat.strongRecOn with
    |_ n ih=>intro hp;exact hc ⟨n,hp,ih⟩
  obtain⟨n,hn⟩:=h
  exact this n hn
theorem Flt.ex (n:Nat) (P:Nat→Nat→Prop) (J:Nat→Nat→Nat→Prop):∃t,Flt n P J t:=by
  by_cases h:∃a,∃b,a<n∧b<n∧P a b
  · obtain⟨a,ha,hla⟩:=least h
    obtain⟨b,⟨h1,h2,h3⟩,hlb⟩:=least ha
    refine⟨_,.inl ⟨a,b,rfl,h1,h2,h3,fun a' b' hb' hlt hp=> ?_⟩⟩
    rcases hlt with hlt|⟨rfl,hlt⟩
    · exact hla a' hlt ⟨b',by omega,hb',hp⟩
    · exact hlb b' hlt ⟨h1,hb',hp⟩
  · have hn:∀a b,a<n→b<n→¬P a b:=fun a b ha hb hp=>h ⟨a,b,ha,hb,hp⟩
    by_cases h':∃a,∃b,∃c,a<b∧b<c∧c<n∧J a b c
    · obtain⟨a,ha,hla⟩:=least h'
      obtain⟨b,hb,hlb⟩:=least ha
      obtain⟨c,⟨h1,h2,h3,h4⟩,hlc⟩:=least hb
      refine⟨_,.inr ⟨hn,.inl ⟨a,b,c,rfl,h1,h2,h3,h4,fun a' b' c' g1 g2 g3 hlt hj=> ?_⟩⟩⟩
      rcases hlt with hlt|⟨rfl,hlt|⟨rfl,hlt⟩⟩
      · exact hla a' hlt ⟨b',c',g1,g2,g3,hj⟩
      · exact hlb b' hlt ⟨c',g1,g2,g3,hj⟩
      · exact hlc c' hlt ⟨g1,g2,g3,hj⟩
    · exact⟨_,.inr ⟨hn,.inr ⟨rfl,fun a b c h1 h2 h3 hj=>h' ⟨a,b,c,h1,h2,h3,hj⟩⟩⟩⟩
def pf (p:Int) (pw:List (List Int)) (br:List (List (List Int))) (i j:Nat):Prop:=
  mulL p pw p (brkL p pw br (unitL pw.length i) (unitL pw.length j))≠brkL p pw br (pw.getD i []) (unitL pw.length j)
def jsum (p:Int) (pw:List (List Int)) (br:List (List (List Int))) (a b c:List Int):List Int:=
  mixL p pw 1 (mixL p pw 1 (brkL p pw br (brkL p pw br a b) c) 1 (brkL p pw br (brkL p pw br b c) a)) 1 (brkL p pw br (brkL p pw br c a) b)
def jf (p:Int) (pw:List (List Int)) (br:List (List (List Int))) (i j k:Nat):Prop:=¬zeros (jsum p pw br (unitL pw.length i) (unitL pw.length j) (unitL pw.length k))
def isFault (p:Int) (pw:List (List Int)) (br:List (List (List Int))) (t:Int×Int×Int×Int):Prop:=Flt pw.length (pf p pw br) (jf p pw br) t
def i4 (t:Int×Int×Int×Int):AV:= .t [.i .i64 t.1,.i .i64 t.2.1,.i .i64 t.2.2.1,.i .i64 t.2.2.2]
theorem Sml.zero {n:Nat} {k:Int}:Sml n k (vec n (fun _=>0)):=fun j hj=>by rw[vec_get hj];simp
end Go.Proofs.YthncdadmkppclaaGreatDoor
