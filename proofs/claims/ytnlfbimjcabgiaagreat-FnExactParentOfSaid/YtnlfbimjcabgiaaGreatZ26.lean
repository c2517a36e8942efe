import Derived.Test.YtnlfbimjcabgiaaGreatZ25
set_option linter.unusedVariables false
set_option linter.unusedSimpArgs false
namespace Go.Proofs.YtnlfbimjcabgiaaGreat
open Nat (reduceAdd reduceSub reduceGT reduceEqDiff reduceMul)
end Go.Proofs.YtnlfbimjcabgiaaGreat
namespace Go.Proofs.YtnlfbimjcabgiaaGreat
open Nat (reduceAdd reduceSub reduceGT reduceEqDiff reduceMul)
noncomputable def pwV (P:Pc) (x:V) (k:Int):V:=if k<0 then rep (M P 0) (inv P 0 x) (0-k).toNat else rep (M P 0) x k.toNat
noncomputable def cmV (P:Pc) (x y:V):V:=M P 0 (inv P 0 (M P 0 y x)) (M P 0 x y)
theorem pwV_T {P:Pc} (hv:Val P) (hc:Con P 0) {x:V} (hx:T P 0 x) (k:Int):T P 0 (pwV P x k):=by
  have hg:=con_grp hv hc
  unfold pwV
  split
  · exact hg.rep (inv_T hg hx).1 _
  · exact hg.rep hx _
theorem cmV_T {P:Pc} (hv:Val P) (hc:Con P 0) {x y:V} (hx:T P 0 x) (hy:T P 0 y):T P 0 (cmV P x y):=by
  have hg:=con_grp hv hc
  exact hg.cl (inv_T hg (hg.cl hy hx)).1 (hg.cl hx hy)
theorem tmod_pos {a b:Int} (hb:0<b):(a.tmod b<0→a.tmod b+b=a%b)∧(0≤a.tmod b→a.tmod b=a%b):=by
  rw[Int.tmod_eq_emod]
  have h1:=Int.emod_nonneg a (show b≠0 by omega)
  have h2:=Int.emod_lt_of_pos a hb
  split<;>omega
theorem spec_l01Mod_ok (a b:Int) (hb:2≤b∧b≤1000000000):ACp Tryz.prog 134 [.i .i64 a,.i .i64 b] (.i .i64 (a%b)):=by
 have hd:=tmod_pos (a:=a) (show 0<b by omega)
 have h3:=Int.emod_nonneg a (show b≠0 by omega)
 have h4:=Int.emod_lt_of_pos a (show 0<b by omega)
 have h5: -b≤a.tmod b∧a.tmod b<b:=by rcases Int.lt_or_le (a.tmod b) 0 with h|h;(have:=hd.1 h;omega);(have:=hd.2 h;omega)
 refine ACp.intro' envOk Tryz.func134 rfl (by kernel_rfl) Tryz.ntmps134 Tryz.results134 (.i _ _) (fun nx=> ?_)
 refine AW.sr envOk (fun N hN=> ?_)
 simp-dsimp-implicitDefEqProofs (disch:=omega) only[go_sem,undef,w64]
 refine hN _ ?_
 try clear hN N
 refine AW.sr envOk (fun N hN=> ?_)
 simp-dsimp-implicitDefEqProofs (disch:=omega) only[go_sem,undef,w64]
 refine hN _ ?_
 try clear hN N
 refine AW.seq (fun N1 hN1=> ?_)
 refine AW.sr envOk (fun N hN=> ?_)
 simp-dsimp-implicitDefEqProofs (disch:=omega) only[go_sem,undef,w64]
 refine hN _ ?_
 try clear hN N
 refine AW.cond rfl (fun h1=> ?_) (fun h1=> ?_)
 ·try simp only[cn]at h1
  refine AW.regionL envOk ?_
  simp-dsimp-implicitDefEqProofs (disch:=omega) only[go_sem,undef,w64]
  refine hN1 _ ?_
  try clear hN1 N1
  refine AW.sr envOk (fun N hN=> ?_)
  simp-dsimp-implicitDefEqProofs (disch:=omega) only[go_sem,undef,w64]
  refine hN _ ?_
  try clear hN N
  refine AW.ret ?_
  simp-dsimp-implicitDefEqProofs (disch:=omega) only[go_sem,undef]
  rw[hd.1 h1]
 ·try simp only[cn]at h1
  refine AW.skip ?_
  simp only[thn,blk]
  refine hN1 _ ?_
  try clear hN1 N1
  refine AW.sr envOk (fun N hN=> ?_)
  simp-dsimp-implicitDefEqProofs (disch:=omega) only[go_sem,undef,w64]
  refine hN _ ?_
  try clear hN N
  refine AW.ret ?_
  simp-dsimp-implicitDefEqProofs (disch:=omega) only[go_sem,undef]
  rw[hd.2 h1]
def isInv (p a y:Int):Prop:=1≤y∧y<p∧a*y%p=1
theorem inv_ex {p a:Int} (hp:pr4 p) (h1:1≤a) (h2:a<p):∃y,isInv p a y:=by
  rcases hp with rfl|rfl|rfl|rfl
  · exact⟨1,by omega,by omega,by omega⟩
  · rcases (show a=1∨a=2 by omega)with rfl|rfl
    · exact⟨1,by decide,by decide,by decide⟩
    · exact⟨2,by decide,by decide,by decide⟩
  · rcases (show a=1∨a=2∨a=3∨a=4 by omega)with rfl|rfl|rfl|rfl
    · exact⟨1,by decide,by decide,by decide⟩
    · exact⟨3,by decide,by decide,by decide⟩
    · exact⟨2,by decide,by decide,by decide⟩
    · exact⟨4,by decide,by decide,by decide⟩
  · rcases (show a=1∨a=2∨a=3∨a=4∨a=5∨a=6 by omega)with rfl|rfl|rfl|rfl|rfl|rfl
    · exact⟨1,by decide,by decide,by decide⟩
    · exact⟨4,by decide,by decide,by decide⟩
    · exact⟨5,by decide,by decide,by decide⟩
    · exact⟨2,by decide,by decide,by decide⟩
    · exact⟨3,by decide,by decide,by decide⟩
    · exact⟨6,by decide,by decide,by decide⟩
theorem inv_uniq {p a y z:Int} (hy:isInv p a y) (hz:isInv p a z):y=z:=by
  obtain⟨h1,h2,h3⟩:=hy
  obtain⟨h4,h5,h6⟩:=hz
  have e:y*(a*z)=z*(a*y):=by rw[Int.mul_left_comm,Int.mul_left_comm z,Int.mul_comm y z]
  have e1:=Int.emod_add_mul_ediv (a*z) p
  have e2:=Int.emod_add_mul_ediv (a*y) p
  rw[h6]at e1
  rw[h3]at e2
  rw[←e1,←e2,Int.mul_add,Int.mul_add,Int.mul_one,Int.mul_one,Int.mul_left_comm,Int.mul_left_comm z]at e
  have e3:y-z=p*(z*(a*y/p)-y*(a*z/p)):=by rw[Int.mul_sub];omega
  obtain⟨q,hq⟩:∃q,z*(a*y/p)-y*(a*z/p)=q:=⟨_,rfl⟩
  rw[hq]at e3
  rcases Int.lt_trichotomy q 0 with h|h|h
  · have:p*q≤p*(-1):=Int.mul_le_mul_of_nonneg_left (by omega) (by omega)
    omega
  · subst h;omega
  · have:p*1≤p*q:=Int.mul_le_mul_of_nonneg_left (by omega) (by omega)
    omega
noncomputable def invP (p a:Int):Int:=Classical.epsilon (isInv p a)
theorem invP_ok {p a:Int} (hp:pr4 p) (h1:1≤a) (h2:a<p):isInv p a (invP p a):=Classical.epsilon_spec (inv_ex hp h1 h2)
theorem spec_l01Inv_ok (a p:Int) (hp:pr4 p) (ha1:1≤a) (ha2:a<p):ACp Tryz.prog 96 [.i .i64 a,.i .i64 p] (.i .i64 (invP p a)):=by
 have hinv:=invP_ok hp ha1 ha2
 have hb:=pr4_bd hp
 have hmod:=spec_l01Mod_ok a p (by omega)
 rw[Int.emod_eq_of_lt (by omega) ha2]at hmod
 refine ACp.intro' envOk Tryz.func96 rfl (by kernel_rfl) Tryz.ntmps96 Tryz.results96 (.i _ _) (fun nx=> ?_)
 refine AW.sr envOk (fun N hN=> ?_)
 simp-dsimp-implicitDefEqProofs (disch:=omega) only[go_sem,undef,w64]
 refine hN _ ?_
 try clear hN N
 refine AW.seq (fun N1 hN1=> ?_)
 refine AW.sr envOk (fun N hN=> ?_)
 simp-dsimp-implicitDefEqProofs (disch:=omega) only[go_sem,undef,w64]
 refine hN _ ?_
 try clear hN N
 refine AW.block ?_
 refine AW.loopN (α:=Nat) (fun x=>sl 20 [(0,.i .i64 a),(1,.i .i64 p),(5,.i .i64 x)]) (fun _=>noH) (fun x m=>1≤x∧(x:Int)≤p∧∀y:Int,1≤y→y<x→a*y%p≠1) (fun x=>p.toNat-x) (1) ?_ ?_ (fun _ _ h=>h) ?_
 ·exact⟨by omega,by omega,by intro y q1 q2;omega⟩
 ·simp(disch:=omega) [wks,wkA,sl,w64,ints,rows,cubes,w64]<;>omega
 ·skip
  rintro k m ⟨hk1,hk2,hI⟩
  simp-dsimp-implicitDefEqProofs (disch:=omega) only[go_sem,undef]
  refine AW.seq (fun N2 hN2=> ?_)
  refine AW.sr envOk (fun N hN=> ?_)
  simp-dsimp-implicitDefEqProofs (disch:=omega) only[go_sem,undef,w64]
  refine hN _ ?_
  try clear hN N
  refine AW.cond rfl (fun h1=> ?_) (fun h1=> ?_)
  ·try simp only[cn]at h1
   refine AW.skip ?_
   simp only[thn,blk]
   refine hN2 _ ?_
   try clear hN2 N2
   refine AW.seq (fun N3 hN3=> ?_)
   refine AW.block ?_
   refine AW.sr envOk (fun N hN=> ?_)
   simp-dsimp-implicitDefEqProofs (disch:=omega) only[go_sem,undef,w64]
   have hmul:0≤a*(k:Int)∧a*(k:Int)≤49:=⟨Int.mul_nonneg (by omega) (by omega),by have:=Int.mul_le_mul (show a≤7 by omega) (show(k:Int)≤7 by omega) (by omega) (by omega);omega⟩
   have htm:=Int.tmod_eq_emod_of_nonneg (b:=p) hmul.1
   refine AC.pure (.of (hmod)) ?_
   try simp-dsimp-implicitDefEqProofs (disch:=omega) only[go_sem,undef,w64]
   refine hN _ ?_
   try clear hN N
   refine AW.cond rfl (fun h2=> ?_) (fun h2=> ?_)
   ·try simp only[cn]at h2
    refine AW.sr envOk (fun N hN=> ?_)
    simp-dsimp-implicitDefEqProofs (disch:=omega) only[go_sem,undef,w64]
    refine hN _ ?_
    try clear hN N
    refine AW.ret ?_
    simp-dsimp-implicitDefEqProofs (disch:=omega) only[go_sem,undef]
    rw[inv_uniq (y:=(k:Int)) (z:=invP p a) ⟨by omega,by omega,by rw[←htm];exact h2⟩ hinv]
   ·try simp only[cn]at h2
    refine AW.skip ?_
    simp only[thn,blk]
    refine hN3 _ ?_
    try clear hN3 N3
    refine AW.regionL envOk ?_
    simp-dsimp-implicitDefEqProofs (disch:=omega) only[go_sem,undef,w64]
    refine⟨k+1,?_,fun _ _ h=>h,?_,?_⟩
    ·simp(disch:=omega) [wks,wkA,sl,w64,ints,rows,cubes,w64]<;>omega
    ·refine⟨by omega,by omega,fun y q1 q2=> ?_⟩
     by_cases e:y=k
     ·subst e;rw[←htm];exact h2
     ·exact hI y q1 (by omega)
    ·first|omega|(simp only;omega)
  ·try simp only[cn]at h1
   refine AW.exit ?_
   simp only[thn,blk,if_true]
   refine hN1 _ ?_
   try clear hN1 N1
   refine AW.sr envOk (fun N hN=> ?_)
   simp-dsimp-implicitDefEqProofs (disch:=omega) only[go_sem,undef,w64]
   refine hN _ ?_
   try clear hN N
   refine AW.ret ?_
   simp-dsimp-implicitDefEqProofs (disch:=omega) only[go_sem,undef]
   exact absurd hinv.2.2 (hI _ hinv.1 (by have:=hinv.2.1;omega))
section
variable (os:List Int) (pw:List (List Int)) (cj:List (List (List Int)))
theorem spec_l10Pow_ok (h:presOk os pw cj) (hc:Con (pc os pw cj) 0) (a:V) (ha:T (pc os pw cj) 0 a) (k:Int) (hk: -1099511627776≤k∧k≤1099511627776):ACp Tryz.prog 74 [prs os pw cj,vi os.length a,.i .i64 k] (vi os.length (pwV (pc os pw cj) a k)):=by
 have hg:=con_grp h.val hc
 refine ACp.intro' envOk Tryz.func74 rfl (by kernel_rfl) Tryz.ntmps74 Tryz.results74 (vi_nr _ _) (fun nx=> ?_)
 refine AW.sr envOk (fun N hN=> ?_)
 simp-dsimp-implicitDefEqProofs (disch:=omega) only[go_sem,undef,prs,prsP,w64]
 refine hN _ ?_
 try clear hN N
 refine AW.freezeQ 3 nx _ rfl (upd_same _ _ _) ?_
 simp-dsimp-implicitDefEqProofs (disch:=omega) only[go_sem,undef]
 refine AW.seq (fun N1 hN1=> ?_)
 refine AW.sr envOk (fun N hN=> ?_)
 simp-dsimp-implicitDefEqProofs (disch:=omega) only[go_sem,undef,prs,prsP,w64]
 refine hN _ ?_
 try clear hN N
 refine AW.cond rfl (fun h1=> ?_) (fun h1=> ?_)
 ·try simp only[cn]at h1
  have hr:=spec_l08Repeat_ok os pw cj h 0 (Nat.zero_le _) hg _ (inv_T hg ha).1 (0-k).toNat (by omega)
  rw[Int.toNat_of_nonneg (show 0≤0-k by omega)]at hr
  refine AW.seq (fun N hN=> ?_)
  refine AW.drawL envOk (by kernel_rfl) 8 (by kernel_rfl) ?_
  simp-dsimp-implicitDefEqProofs (disch:=omega) only[hr_nil,hr_one,hr_if,List.take_succ_cons,List.take_zero,List.drop_succ_cons,List.drop_zero,List.take_nil,List.drop_nil,go_sem,undef,prs,prsP,w64]
  refine⟨_,.of (spec_l10Inv_ok os pw cj h hc a ha),?_⟩
  try simp-dsimp-implicitDefEqProofs (disch:=omega) only[go_sem,undef,prs,prsP,w64]
  refine⟨_,.of (hr),?_⟩
  try simp-dsimp-implicitDefEqProofs (disch:=omega) only[go_sem,undef,prs,prsP,w64]
  refine hN _ ?_
  try clear hN N
  refine AW.ret ?_
  simp-dsimp-implicitDefEqProofs (disch:=omega) only[go_sem,undef]
  rw[pwV,if_pos h1]
 ·try simp only[cn]at h1
  have hr:=spec_l08Repeat_ok os pw cj h 0 (Nat.zero_le _) hg _ ha k.toNat (by omega)
  rw[Int.toNat_of_nonneg (show 0≤k by omega)]at hr
  refine AW.skip ?_
  simp only[thn,blk]
  refine hN1 _ ?_
  try clear hN1 N1
  refine AW.sr envOk (fun N hN=> ?_)
  simp-dsimp-implicitDefEqProofs (disch:=omega) only[go_sem,undef,prs,prsP,w64]
  refine AC.pure (.of (hr)) ?_
  try simp-dsimp-implicitDefEqProofs (disch:=omega) only[go_sem,undef,prs,prsP,w64]
  refine hN _ ?_
  try clear hN N
  refine AW.ret ?_
  simp-dsimp-implicitDefEqProofs (disch:=omega) only[go_sem,undef]
  rw[pwV,if_neg (by omega)]
theorem spec_l10Comm_ok (h:presOk os pw cj) (hc:Con (pc os pw cj) 0) (a b:V) (ha:T (pc os pw cj) 0 a) (hb:T (pc os pw cj) 0 b):ACp Tryz.prog 97 [prs os pw cj,vi os.length a,vi os.length b] (vi os.length (cmV (pc os pw cj) a b)):=by
 have hg:=con_grp h.val hc
 refine ACp.intro' envOk Tryz.func97 rfl (by kernel_rfl) Tryz.ntmps97 Tryz.results97 (vi_nr _ _) (fun nx=> ?_)
 refine AW.sr envOk (fun N hN=> ?_)
 simp-dsimp-implicitDefEqProofs (disch:=omega) only[go_sem,undef,prs,prsP,w64]
 refine hN _ ?_
 try clear hN N
 refine AW.freezeQ 3 nx _ rfl (upd_same _ _ _) ?_
 simp-dsimp-implicitDefEqProofs (disch:=omega) only[go_sem,undef]
 refine AW.seq (fun N hN=> ?_)
 refine AW.drawL envOk (by kernel_rfl) 13 (by kernel_rfl) ?_
 simp-dsimp-implicitDefEqProofs (disch:=omega) only[hr_nil,hr_one,hr_if,List.take_succ_cons,List.take_zero,List.drop_succ_cons,List.drop_zero,List.take_nil,List.drop_nil,go_sem,undef,prs,prsP,w64]
 refine⟨_,.of (spec_l08Mul_ok os pw cj h _ _ hb ha),?_⟩
 try simp-dsimp-implicitDefEqProofs (disch:=omega) only[go_sem,undef,prs,prsP,w64]
 refine⟨_,.of (spec_l10Inv_ok os pw cj h hc _ (hg.cl hb ha)),?_⟩
 try simp-dsimp-implicitDefEqProofs (disch:=omega) only[go_sem,undef,prs,prsP,w64]
 refine⟨_,.of (spec_l08Mul_ok os pw cj h _ _ ha hb),?_⟩
 try simp-dsimp-implicitDefEqProofs (disch:=omega) only[go_sem,undef,prs,prsP,w64]
 refine⟨_,.of (spec_l08Mul_ok os pw cj h _ _ (inv_T hg (hg.cl hb ha)).1 (hg.cl ha hb)),?_⟩
 try simp-dsimp-implicitDefEqProofs (disch:=omega) only[go_sem,undef,prs,prsP,w64]
 refine hN _ ?_
 try clear hN N
 refine AW.ret ?_
 simp-dsimp-implicitDefEqProofs (disch:=omega) only[go_sem,undef]
 try rfl
def ldG (x:V):Nat→Nat→Nat
  |0,k=>k
  |f+1,k=>if x k=0 then ldG x f (k+1)else k
def ldV (n:Nat) (x:V):Nat:=ldG x n 0
theorem ldG_sp {x:V}:∀f k,k≤ldG x f k∧ldG x f k≤k+f∧(∀j,k≤j→j<ldG x f k→x j=0)∧(ldG x f k<k+f→x (ldG x f k)≠0):=by
  intro f
  induction f with
  |zero=>intro k;rw[ldG];exact⟨Nat.le_refl _,by omega,fun j h1 h2=>by omega,fun h=>by omega⟩
  | succ f ih=>
    intro k
    rw[ldG]
    split
    · rename_i h
      obtain⟨i1,i2,i3,i4⟩:=ih (k+1)
      refine⟨by omega,by omega,fun j h1 h2=> ?_,fun h2=>i4 (by omega)⟩
      by_cases e:j=k
      · subst e;exact h
      · exact i3 j (by omega) h2
    · rename_i h
      exact⟨Nat.le_refl _,by omega,fun j h1 h2=>by omega,fun _=>h⟩
theorem spec_l02Lead_ok (n:Nat) (hn:n≤1048576) (f:V):ACp Tryz.prog 132 [vi n f] (.i .i64 (ldV n f)):=by
 refine ACp.intro' envOk Tryz.func132 rfl (by kernel_rfl) Tryz.ntmps132 Tryz.results132 (.i _ _) (fun nx=> ?_)
 refine AW.sr envOk (fun N hN=> ?_)
 simp-dsimp-implicitDefEqProofs (disch:=omega) only[go_sem,undef,w64,vi]
 refine hN _ ?_
 try clear hN N
 refine AW.seq (fun N1 hN1=> ?_)
 refine AW.sr envOk (fun N hN=> ?_)
 simp-dsimp-implicitDefEqProofs (disch:=omega) only[go_sem,undef,w64,vi]
 refine hN _ ?_
 try clear hN N
 refine AW.block ?_
 refine AW.loopN (α:=Nat) (fun x=>sl 18 [(0,vi n f),(3,.i .i64 x)]) (fun _=>noH) (fun x m=>x≤n∧ldG f (n-x) x=ldV n f) (fun x=>n-x) (0) ?_ ?_ (fun _ _ h=>h) ?_
 ·exact⟨by omega,rfl⟩
 ·simp(disch:=omega) [wks,wkA,sl,vi]
 ·skip
  rintro k m ⟨hk,hI⟩
  simp-dsimp-implicitDefEqProofs (disch:=omega) only[go_sem,undef]
  refine AW.seq (fun N2 hN2=> ?_)
  refine AW.sr envOk (fun N hN=> ?_)
  simp-dsimp-implicitDefEqProofs (disch:=omega) only[go_sem,undef,w64,vi]
  refine hN _ ?_
  try clear hN N
  refine AW.cond rfl (fun h1=> ?_) (fun h1=> ?_)
  ·try simp only[cn]at h1
   have hs:ldG f (n-k) k=if f k=0 then ldG f (n-(k+1)) (k+1)else k:=by
    obtain⟨q,hq⟩:∃q,n-k=q+1:=⟨n-k-1,by omega⟩
    rw[hq,ldG,show n-(k+1)=q by omega]
   refine AW.skip ?_
   simp only[thn,blk]
   refine hN2 _ ?_
   try clear hN2 N2
   refine AW.seq (fun N3 hN3=> ?_)
   refine AW.block ?_
   refine AW.sr envOk (fun N hN=> ?_)
   simp-dsimp-implicitDefEqProofs (disch:=omega) only[go_sem,undef,w64,vi]
   refine hN _ ?_
   try clear hN N
   refine AW.cond rfl (fun h2=> ?_) (fun h2=> ?_)
   ·try simp only[cn]at h2
    refine AW.sr envOk (fun N hN=> ?_)
    simp-dsimp-implicitDefEqProofs (disch:=omega) only[go_sem,undef,w64,vi]
    refine hN _ ?_
    try clear hN N
    refine AW.ret ?_
    simp-dsimp-implicitDefEqProofs (disch:=omega) only[go_sem,undef]
    rw[←hI,hs,if_neg h2]
   ·try simp only[cn]at h2
    refine AW.skip ?_
    simp only[thn,blk]
    refine hN3 _ ?_
    try clear hN3 N3
    refine AW.regionL envOk ?_
    simp-dsimp-implicitDefEqProofs (disch:=omega) only[go_sem,undef,w64,vi]
    refine⟨k+1,?_,fun _ _ h=>h,?_,?_⟩
    ·simp(disch:=omega) [wks,wkA,sl,w64,ints,rows,cubes,w64,vi]<;>omega
    ·exact⟨by omega,by rw[←hI,hs,if_pos h2]⟩
    ·first|omega|(simp only;omega)
  ·try simp only[cn]at h1
   refine AW.exit ?_
   simp only[thn,blk,if_true]
   refine hN1 _ ?_
   try clear hN1 N1
   refine AW.sr envOk (fun N hN=> ?_)
   simp-dsimp-implicitDefEqProofs (disch:=omega) only[go_sem,undef,w64,vi]
   refine hN _ ?_
   try clear hN N
   refine AW.ret ?_
   simp-dsimp-implicitDefEqProofs (disch:=omega) only[go_sem,undef]
   rw[←hI,show n-k=0 by omega,ldG,show k=n by omega]
theorem spec_l12Depth_ok (n:Nat) (hn:n≤1048576) (f:V):ACp Tryz.prog 93 [vi n f] (.i .i64 (ldV n f)):=by
 refine ACp.intro' envOk Tryz.func93 rfl (by kernel_rfl) Tryz.ntmps93 Tryz.results93 (.i _ _) (fun nx=> ?_)
 refine AW.sr envOk (fun N hN=> ?_)
 simp-dsimp-implicitDefEqProofs (disch:=omega) only[go_sem,undef,w64]
 refine hN _ ?_
 try clear hN N
 refine AW.sr envOk (fun N hN=> ?_)
 simp-dsimp-implicitDefEqProofs (disch:=omega) only[go_sem,undef,w64]
 refine AC.pure (.of (spec_l02Lead_ok n hn f)) ?_
 try simp-dsimp-implicitDefEqProofs (disch:=omega) only[go_sem,undef,w64]
 refine hN _ ?_
 try clear hN N
 refine AW.ret ?_
 simp-dsimp-implicitDefEqProofs (disch:=omega) only[go_sem,undef]
 try rfl
end
end Go.Proofs.YtnlfbimjcabgiaaGreat
namespace Go.Proofs.YtnlfbimjcabgiaaGreat
open Nat (reduceAdd reduceSub reduceGT reduceEqDiff reduceMul)
theorem impl_residue_ok (a m:Int) (hm:2≤m∧m≤1000000000):ACp Tryz.prog 140 [.i .i64 a,.i .i64 m] (.i .i64 (a%m)):=by
 have hd:=tmod_pos (a:=a) (show 0<m by omega)
 have h3:=Int.emod_nonneg a (show m≠0 by omega)
 have h4:=Int.emod_lt_of_pos a (show 0<m by omega)
 have h5: -m≤a.tmod m∧a.tmod m<m:=by rcases Int.lt_or_le (a.tmod m) 0 with h|h;(have:=hd.1 h;omega);(have:=hd.2 h;omega)
 have h6:(a.tmod m+m).tmod m=a%m:=by
  rw[Int.tmod_eq_emod_of_nonneg (by omega)]
  rcases Int.lt_or_le (a.tmod m) 0 with h|h
  ·rw[hd.1 h,Int.emod_eq_of_lt (by omega) (by omega)]
  ·rw[hd.2 h,Int.add_emod_right,Int.emod_eq_of_lt (by omega) (by omega)]
 refine ACp.intro' envOk Tryz.func140 rfl (by kernel_rfl) Tryz.ntmps140 Tryz.results140 (.i _ _) (fun nx=> ?_)
 refine AW.sr envOk (fun N hN=> ?_)
 simp-dsimp-implicitDefEqProofs (disch:=omega) only[go_sem,undef,w64]
 refine hN _ ?_
 try clear hN N
 refine AW.sr envOk (fun N hN=> ?_)
 simp-dsimp-implicitDefEqProofs (disch:=omega) only[go_sem,undef,w64]
 refine hN _ ?_
 try clear hN N
 refine AW.ret ?_
 simp-dsimp-implicitDefEqProofs (disch:=omega) only[go_sem,undef]
 rw[h6]
structure Euc (m a r n x y X Y:Int):Prop where
  r0:0<r
  rm:r≤m
  n0:0≤n
  nm:n≤m
  X0:0≤X
  Y0:0≤Y
  sx:(x=X∧y= -Y)∨(x= -X∧y=Y)
  sum:Y*r+X*n=m
  bz:∃u v,u*r+v*n=1
  cx:∃k,x*a-r=k*m
  cy:∃k,y*a-n=k*m
theorem Euc.start {m a:Int} (hm:0<m) (ha:0≤a) (ham:a≤m) (hb:∃u v,u*m+v*a=1):Euc m a m a 0 1 0 1:=
  ⟨hm,by omega,ha,ham,by omega,by omega,.inr ⟨by omega,rfl⟩,by omega,hb,⟨-1,by omega⟩,⟨0,by omega⟩⟩
theorem Euc.ybd {m a r n x y X Y:Int} (h:Euc m a r n x y X Y):Y≤m:=by
  have h1:0≤X*n:=Int.mul_nonneg h.X0 h.n0
  have h2:Y*1≤Y*r:=Int.mul_le_mul_of_nonneg_left (by have:=h.r0;omega) h.Y0
  have h3:=h.sum
  omega
theorem Euc.xbd {m a r n x y X Y:Int} (h:Euc m a r n x y X Y) (hn:0<n):X≤m:=by
  have h1:X*1≤X*n:=Int.mul_le_mul_of_nonneg_left (by omega) h.X0
  have h2:0≤Y*r:=Int.mul_nonneg h.Y0 (by have:=h.r0;omega)
  have h3:=h.sum
  omega
theorem Euc.step {m a r n x y X Y:Int} (h:Euc m a r n x y X Y) (hn:0<n):Euc m a n (r-r/n*n) y (x-r/n*y) Y (X+r/n*Y)∧0≤r/n∧r/n≤m∧0≤r/n*n∧r/n*n≤m∧-m≤r/n*y∧r/n*y≤m:=by
  have hr:=h.r0
  obtain⟨q,hq⟩:∃q,r/n=q:=⟨_,rfl⟩
  have e1:=Int.emod_add_mul_ediv r n
  have e2:=Int.emod_nonneg r (show n≠0 by omega)
  have e3:=Int.emod_lt_of_pos r hn
  rw[hq,Int.mul_comm n q]at e1
  have hq0:0≤q:=by rw[←hq];exact Int.ediv_nonneg (by omega) (by omega)
  rw[hq]
  have hqn:q*1≤q*n:=Int.mul_le_mul_of_nonneg_left (by omega) hq0
  have hqY:0≤q*Y:=Int.mul_nonneg hq0 h.Y0
  have hst:Euc m a n (r-q*n) y (x-q*y) Y (X+q*Y):=by
    refine⟨hn,h.nm,by omega,by have:=h.nm;omega,h.Y0,by have:=h.X0;omega,?_,?_,?_,h.cy,?_⟩
    · rcases h.sx with ⟨h1,h2⟩|⟨h1,h2⟩
      · exact .inr ⟨h2,by rw[h1,h2,Int.mul_neg];omega⟩
      · exact .inl ⟨h2,by rw[h1,h2];omega⟩
    · have:=h.sum
      rw[Int.add_mul,Int.mul_sub]
      have e4:q*Y*n=Y*(q*n):=by rw[Int.mul_comm q Y,Int.mul_assoc]
      omega
    · obtain⟨u,v,h1⟩:=h.bz
      refine⟨v+u*q,u,?_⟩
      rw[Int.add_mul,Int.mul_sub,Int.mul_assoc];omega
    · obtain⟨k1,h1⟩:=h.cx
      obtain⟨k2,h2⟩:=h.cy
      refine⟨k1-q*k2,?_⟩
      have e5:q*(y*a-n)=q*(k2*m):=by rw[h2]
      rw[Int.mul_sub,←Int.mul_assoc,←Int.mul_assoc]at e5
      rw[Int.sub_mul,Int.sub_mul];omega
  have hY:=hst.ybd
  have hX0:=h.X0
  have hrm:=h.rm
  refine⟨hst,hq0,by omega,by omega,by omega,?_,?_⟩
  · rcases h.sx with ⟨_,h2⟩|⟨_,h2⟩
    · rw[h2,Int.mul_neg];omega
    · rw[h2];omega
  · rcases h.sx with ⟨_,h2⟩|⟨_,h2⟩
    · rw[h2,Int.mul_neg];omega
    · rw[h2];omega
theorem Euc.fin {m a r x y X Y:Int} (h:Euc m a r 0 x y X Y) (hm:2≤m):r=1∧isInv m a (x%m):=by
  have hr:=h.r0
  have hr1:r=1:=by
    obtain⟨u,v,h1⟩:=h.bz
    rcases Int.lt_or_le u 1 with hu|hu
    · have:u*r≤0*r:=Int.mul_le_mul_of_nonneg_right (by omega) (by omega)
      omega
    · have:1*r≤u*r:=Int.mul_le_mul_of_nonneg_right hu (by omega)
      omega
  subst hr1
  refine⟨rfl,?_⟩
  obtain⟨k,hk⟩:=h.cx
  have h1:a*x%m=1:=by
    have:a*x=1+k*m:=by rw[Int.mul_comm];omega
    rw[this,Int.add_mul_emod_self_right,Int.emod_eq_of_lt (by omega) (by omega)]
  have h2:a*(x%m)%m=1:=by rw[Int.mul_emod,Int.emod_emod,←Int.mul_emod];exact h1
  have h3:=Int.emod_nonneg x (show m≠0 by omega)
  refine⟨?_,Int.emod_lt_of_pos x (by omega),h2⟩
  rcases Int.lt_or_le 0 (x%m)with h4|h4
  · omega
  · have h5:x%m=0:=by omega
    rw[h5]at h2;simp at h2
theorem nr_ib (k:IntKind) (n:Int) (b:Bool):NR (.t [.i k n,.b b]):=NR.ts (fun x hx=>by
  simp at hx
  rcases hx with rfl|rfl
  · exact .i _ _
  · exact .b _)
theorem impl_inverseMod_ok (a p:Int) (hp:pr4 p) (ha1:1≤a) (ha2:a<p):ACp Tryz.prog 110 [.i .i64 a,.i .i64 p] (.t [.i .i64 (invP p a),.b true]):=by
 have hinv:=invP_ok hp ha1 ha2
 have hb:=pr4_bd hp
 have hbz:∃u v,u*p+v*a=1:=by
  have e:=Int.emod_add_mul_ediv (a*invP p a) p
  rw[hinv.2.2]at e
  exact⟨-(a*invP p a/p),invP p a,by rw[Int.neg_mul,Int.mul_comm (invP p a) a,Int.mul_comm (a*invP p a/p) p];omega⟩
 refine ACp.intro' envOk Tryz.func110 rfl (by kernel_rfl) Tryz.ntmps110 Tryz.results110 (nr_ib _ _ _) (fun nx=> ?_)
 refine AW.sr envOk (fun N hN=> ?_)
 simp-dsimp-implicitDefEqProofs (disch:=omega) only[go_sem,undef,w64]
 refine hN _ ?_
 try clear hN N
 refine AW.sr envOk (fun N hN=> ?_)
 simp-dsimp-implicitDefEqProofs (disch:=omega) only[go_sem,undef,w64]
 refine hN _ ?_
 try clear hN N
 refine AW.seq (fun N1 hN1=> ?_)
 refine AW.block ?_
 refine AW.loopN (α:=(Int×Int)×(Int×Int)×(Int×Int)) (fun x=>sl 35 [(1,.i .i64 p),(6,.i .i64 x.1.1),(7,.i .i64 x.1.2),(8,.i .i64 x.2.1.1),(9,.i .i64 x.2.1.2)]) (fun _=>noH) (fun x m=>Euc p a x.1.1 x.1.2 x.2.1.1 x.2.1.2 x.2.2.1 x.2.2.2) (fun x=>x.1.2.toNat) (((p,a),(0,1),(0,1))) ?_ ?_ (fun _ _ h=>h) ?_
 ·exact Euc.start (by omega) (by omega) (by omega) hbz
 ·simp(disch:=omega) [wks,wkA,sl,w64,ints,rows,cubes,w64]<;>omega
 ·skip
  rintro⟨⟨r,n⟩,⟨y,z⟩,⟨Y,Z⟩⟩ m he
  dsimp only at he
  simp-dsimp-implicitDefEqProofs (disch:=omega) only[go_sem,undef]
  have hn0:=he.n0
  have hrm:=he.rm
  have hr0:=he.r0
  have hnm:=he.nm
  have hzb:=he.ybd
  have hZ0:=he.Y0
  refine AW.seq (fun N2 hN2=> ?_)
  refine AW.sr envOk (fun N hN=> ?_)
  simp-dsimp-implicitDefEqProofs (disch:=omega) only[go_sem,undef,w64]
  refine hN _ ?_
  try clear hN N
  refine AW.cond rfl (fun h1=> ?_) (fun h1=> ?_)
  ·try simp only[cn]at h1
   obtain⟨e1,e2,e3,e4,e5,e6,e7⟩:=he.step (by omega)
   have hxb:=he.xbd (by omega)
   have hX0:=he.X0
   have hsx:=he.sx
   have htd:r.tdiv n=r/n:=Int.tdiv_eq_ediv_of_nonneg (by omega)
   have hmod:r-r/n*n<n:=by
    have q1:=Int.emod_add_mul_ediv r n
    have q2:=Int.emod_lt_of_pos r (show 0<n by omega)
    rw[Int.mul_comm n]at q1;omega
   rw[←htd]at e1 e2 e3 e4 e5 e6 e7 hmod
   refine AW.skip ?_
   simp only[thn,blk]
   refine hN2 _ ?_
   try clear hN2 N2
   refine AW.block ?_
   refine AW.sr envOk (fun N hN=> ?_)
   simp-dsimp-implicitDefEqProofs (disch:=omega) only[go_sem,undef,w64]
   refine hN _ ?_
   try clear hN N
   refine AW.sr envOk (fun N hN=> ?_)
   simp-dsimp-implicitDefEqProofs (disch:=omega) only[go_sem,undef,w64]
   refine hN _ ?_
   try clear hN N
   refine AW.regionL envOk ?_
   simp-dsimp-implicitDefEqProofs (disch:=omega) only[go_sem,undef,w64]
   refine⟨((n,r-r.tdiv n*n),(z,y-r.tdiv n*z),(Z,Y+r.tdiv n*Z)),?_,fun _ _ h=>h,?_,?_⟩
   ·simp(disch:=omega) [wks,wkA,sl,w64,ints,rows,cubes,w64]<;>omega
   ·exact e1
   ·first|omega|(simp only;omega)
  ·try simp only[cn]at h1
   refine AW.exit ?_
   simp only[thn,blk,if_true]
   refine hN1 _ ?_
   try clear hN1 N1
   refine AW.sr envOk (fun N hN=> ?_)
   simp-dsimp-implicitDefEqProofs (disch:=omega) only[go_sem,undef,w64]
   refine AC.pure (.of (impl_residue_ok y p (by omega))) ?_
   try simp-dsimp-implicitDefEqProofs (disch:=omega) only[go_sem,undef,w64]
   refine hN _ ?_
   try clear hN N
   refine AW.ret ?_
   simp-dsimp-implicitDefEqProofs (disch:=omega) only[go_sem,undef]
   have hn:n=0:=by omega
   subst hn
   obtain⟨f1,f2⟩:=he.fin (by omega)
   rw[inv_uniq f2 hinv,f1];rfl
end Go.Proofs.YtnlfbimjcabgiaaGreat
