import Derived.Test.YtghmeeifjeafmaaGreatZ26
set_option linter.unusedVariables false
set_option linter.unusedSimpArgs false
namespace Go.Proofs.YtghmeeifjeafmaaGreat
open Nat (reduceAdd reduceSub reduceGT reduceEqDiff reduceMul)
theorem spec_l10Order_ok (os:List Int) (pw:List (List Int)) (cj:List (List (List Int))) (h:presOk os pw cj):ACp Tryz.prog 59 [prs os pw cj] (.i .i64 (prd os os.length)):=by
 have hn6:=h.1.1
 have hpr:=h.2.1
 have hN:=h.2.2.1
 refine ACp.intro' envOk Tryz.func59 rfl (by kernel_rfl) Tryz.ntmps59 Tryz.results59 (.i _ _) (fun nx cX=>?_)
 refine AW.sr envOk (fun N hN=>?_);simp-dsimp-implicitDefEqProofs (disch:=omega)only[go_sem,prs,prsP,ints,gd_i];refine hN _ ?_;try clear hN N
 refine AW.freezeQ 1 nx _ rfl (upd_same _ _ _) ?_
 simp-dsimp-implicitDefEqProofs (disch:=omega)only[go_sem];refine AW.sr envOk (fun N hN=>?_);simp-dsimp-implicitDefEqProofs (disch:=omega)only[go_sem,prs,prsP,ints,gd_i];refine hN _ ?_;try clear hN N
 refine AW.seq (fun N1 hN1=>?_);refine AW.sr envOk (fun N hN=>?_);simp-dsimp-implicitDefEqProofs (disch:=omega)only[go_sem,prs,prsP,ints,gd_i];refine hN _ ?_;try clear hN N
 refine AW.block ?_;refine AW.loopN (α:=Nat) (fun x=>sl 20 [(1,prsP os pw cj),(3,.i .i64 (prd os x)),(4,.i .i64 x)]) (fun _=>noH) (fun x m=>x≤os.length) (fun x=>os.length-x) (0) ?_ ?_ (by intro d cs hd;cases hd) ?_
 ·omega
 ·simp(disch:=omega) [wks,wkA,sl,prsP,ints,rows,cubes,prd]
 skip
 rintro k m hk
 simp-dsimp-implicitDefEqProofs (disch:=omega)only[go_sem];refine AW.seq (fun N2 hN2=>?_);refine AW.sr envOk (fun N hN=>?_);simp-dsimp-implicitDefEqProofs (disch:=omega)only[go_sem,prs,prsP,ints,gd_i];refine hN _ ?_;try clear hN N
 refine AW.cond rfl (fun h1=>?_) (fun h1=>?_)
 ·try simp only[cn]at h1
  have h2:=prd_pos hpr (k+1) (by omega)
  have h3:=prd_mono hpr (k:=k+1) (os.length-(k+1)) (by omega)
  have h4:prd os (k+1)=prd os k*os.getD k 0:=rfl
  have h6:prd os (k+1+(os.length-(k+1)))=prd os os.length:=by congr 1;omega
  refine AW.skip ?_;simp only[thn,blk];refine hN2 _ ?_;try clear hN2 N2
  refine AW.seq (fun N3 hN3=>?_);refine AW.block ?_;refine AW.regionL envOk ?_;simp-dsimp-implicitDefEqProofs (disch:=omega)only[go_sem,prs,prsP,ints,gd_i];refine hN3 _ ?_;try clear hN3 N3
  refine AW.regionL envOk ?_;simp-dsimp-implicitDefEqProofs (disch:=omega)only[go_sem,prs,prsP,ints,gd_i];refine⟨k+1,?_,fun _ _ h=>h,?_,?_⟩
  ·simp(disch:=omega) [wks,wkA,sl,prsP,ints,rows,cubes,prd]
  ·omega
  first|omega|(simp only;omega)
 try simp only[cn]at h1
 refine AW.exit ?_;simp only[thn,blk,if_true];refine hN1 _ ?_;try clear hN1 N1
 refine AW.sr envOk (fun N hN=>?_);simp-dsimp-implicitDefEqProofs (disch:=omega)only[go_sem,prs,prsP,ints,gd_i];refine hN _ ?_;try clear hN N
 refine AW.ret ?_;simp-dsimp-implicitDefEqProofs (disch:=omega)only[go_sem];rw[show k=os.length by omega]
theorem impl_orderOf_ok (os:List Int) (pw:List (List Int)) (cj:List (List (List Int))) (h:presOk os pw cj):ACp Tryz.prog 54 [prsP os pw cj] (.i .i64 (prd os os.length)):=by
 have hn6:=h.1.1
 have hpr:=h.2.1
 have hN:=h.2.2.1
 refine ACp.intro' envOk Tryz.func54 rfl (by kernel_rfl) Tryz.ntmps54 Tryz.results54 (.i _ _) (fun nx cX=>?_)
 refine AW.sr envOk (fun N hN=>?_);simp-dsimp-implicitDefEqProofs (disch:=omega)only[go_sem,prs,prsP,ints,gd_i];refine hN _ ?_;try clear hN N
 refine AW.sr envOk (fun N hN=>?_);simp-dsimp-implicitDefEqProofs (disch:=omega)only[go_sem,prs,prsP,ints,gd_i];refine hN _ ?_;try clear hN N
 refine AW.seq (fun N1 hN1=>?_);refine AW.sr envOk (fun N hN=>?_);simp-dsimp-implicitDefEqProofs (disch:=omega)only[go_sem,prs,prsP,ints,gd_i];refine hN _ ?_;try clear hN N
 refine AW.block ?_;refine AW.loopN (α:=Nat) (fun x=>sl 20 [(3,.i .i64 (prd os x)),(9,ints os),(10,.i .i64 os.length),(11,.i .i64 x)]) (fun _=>noH) (fun x m=>x≤os.length) (fun x=>os.length-x) (0) ?_ ?_ (fun _ _ h=>h) ?_
 ·omega
 ·simp(disch:=omega) [wks,wkA,sl,prsP,ints,rows,cubes,prd]
 skip
 rintro k m hk
 simp-dsimp-implicitDefEqProofs (disch:=omega)only[go_sem];refine AW.sr envOk (fun N hN=>?_);simp-dsimp-implicitDefEqProofs (disch:=omega)only[go_sem,prs,prsP,ints,gd_i];refine hN _ ?_;try clear hN N
 refine AW.seq (fun N2 hN2=>?_);refine AW.cond rfl (fun h1=>?_) (fun h1=>?_)
 ·try simp only[cn]at h1
  have h2:=prd_pos hpr (k+1) (by omega)
  have h3:=prd_mono hpr (k:=k+1) (os.length-(k+1)) (by omega)
  have h4:prd os (k+1)=prd os k*os.getD k 0:=rfl
  have h6:prd os (k+1+(os.length-(k+1)))=prd os os.length:=by congr 1;omega
  refine AW.skip ?_;simp only[thn,blk];refine hN2 _ ?_;try clear hN2 N2
  refine AW.seq (fun N3 hN3=>?_);refine AW.block ?_;refine AW.sr envOk (fun N hN=>?_);simp-dsimp-implicitDefEqProofs (disch:=omega)only[go_sem,prs,prsP,ints,gd_i];refine hN _ ?_;try clear hN N
  refine AW.regionL envOk ?_;simp-dsimp-implicitDefEqProofs (disch:=omega)only[go_sem,prs,prsP,ints,gd_i];refine hN3 _ ?_;try clear hN3 N3
  refine AW.regionL envOk ?_;simp-dsimp-implicitDefEqProofs (disch:=omega)only[go_sem,prs,prsP,ints,gd_i];refine⟨k+1,?_,fun _ _ h=>h,?_,?_⟩
  ·simp(disch:=omega) [wks,wkA,sl,prsP,ints,rows,cubes,prd]
  ·omega
  first|omega|(simp only;omega)
 try simp only[cn]at h1
 refine AW.exit ?_;simp only[thn,blk,if_true];refine hN1 _ ?_;try clear hN1 N1
 refine AW.sr envOk (fun N hN=>?_);simp-dsimp-implicitDefEqProofs (disch:=omega)only[go_sem,prs,prsP,ints,gd_i];refine hN _ ?_;try clear hN N
 refine AW.ret ?_;simp-dsimp-implicitDefEqProofs (disch:=omega)only[go_sem];rw[show k=os.length by omega]
def stq (N:Int):Nat→Int
  |0=>1
  |k+1=>if stq N k≤4096 then stq N k*N else stq N k
theorem stq_bd {N:Int} (h1:1≤N) (h2:N≤729):∀k,1≤stq N k∧stq N k≤2985984:=by
  intro k
  induction k with
  |zero=>simp[stq]
  | succ k ih=>
    rw[stq]
    split
    · rename_i h3
      have:=mul_bd ih.1 h3 h1 h2
      omega
    exact ih
def atN (os:List Int) (num:Int):Nat→Int
  |0=>num
  |d+1=>(atN os num d).tdiv (os.getD (os.length-1-d) 0)
def atV (os:List Int) (num:Int):V:=fun i=>if i<os.length then (atN os num (os.length-1-i)).tmod (os.getD i 0)else 0
theorem atN_bd {os:List Int} {num:Int} (h0:0≤num) (hp:∀i,i<os.length→pr4 (os.getD i 0)):∀d,d≤os.length→0≤atN os num d∧atN os num d≤num:=by
  intro d
  induction d with
  |zero=>intro _;exact⟨h0,Int.le_refl _⟩
  | succ d ih=>
    intro hd
    have i1:=ih (by omega)
    have i2:=pr4_bd (hp (os.length-1-d) (by omega))
    rw[atN]
    rw[Int.tdiv_eq_ediv_of_nonneg i1.1]
    exact⟨Int.ediv_nonneg i1.1 (by omega),Int.le_trans (Int.ediv_le_self _ i1.1) i1.2⟩
theorem atV_rg {os:List Int} {num:Int} (h0:0≤num) (hp:∀i,i<os.length→pr4 (os.getD i 0)) {i:Nat} (hi:i<os.length):0≤atV os num i∧atV os num i<os.getD i 0:=by
  have i1:=atN_bd h0 hp (os.length-1-i) (by omega)
  have i2:=pr4_bd (hp i hi)
  rw[atV,if_pos hi,Int.tmod_eq_emod_of_nonneg i1.1]
  exact⟨Int.emod_nonneg _ (by omega),Int.emod_lt_of_pos _ (by omega)⟩
def atP (os:List Int) (num:Int) (d:Nat):V:=fun i=>if os.length≤i+d then atV os num i else 0
theorem atP_next {os:List Int} {num:Int} {d:Nat} (hd:d<os.length):splice (ivs os.length (atP os num d)) (os.length-1-d) [.i .i64 ((atN os num d).tmod (os.getD (os.length-1-d) 0))]=ivs os.length (atP os num (d+1)):=by
  rw[ivs_set (by omega)]
  refine ivs_ext fun i hi=>?_
  unfold fset atP
  split
  · rename_i e
    subst e
    rw[if_pos (by omega),atV,if_pos (by omega),show os.length-1-(os.length-1-d)=d by omega]
  by_cases e:os.length≤i+d
  · rw[if_pos e,if_pos (by omega)]
  rw[if_neg e,if_neg (by omega)]
theorem atP_end {os:List Int} {num:Int}:ivs os.length (atP os num os.length)=ivs os.length (atV os num):=ivs_ext fun i _=>by rw[atP,if_pos (by omega)]
theorem atP_zero {os:List Int} {num:Int}:ivs os.length (atP os num 0)=ivs os.length z0:=ivs_ext fun i hi=>by rw[atP,if_neg (by omega)];rfl
theorem spec_l10One_n (os:List Int) (pw:List (List Int)) (cj:List (List (List Int))) (hn:os.length≤1048576) (nx:Nat):AC Tryz.prog 94 nx noH [prs os pw cj] (fun nx' H' r=>∃id,r= .h id 0 os.length∧nx≤id∧id<nx'∧H' id=some (ivs os.length z0)):=by
 refine AC.introx envOk Tryz.func94 rfl (by kernel_rfl) Tryz.ntmps94 Tryz.results94 (fun hfr cX=>?_)
 refine AW.sr envOk (fun N hN=>?_);simp-dsimp-implicitDefEqProofs (disch:=omega)only[go_sem,prs,ints];refine hN _ ?_;try clear hN N
 refine AW.freezeQ 1 nx _ rfl (upd_same _ _ _) ?_
 simp-dsimp-implicitDefEqProofs (disch:=omega)only[go_sem];refine AW.sr envOk (fun N hN=>?_);simp-dsimp-implicitDefEqProofs (disch:=omega)only[go_sem,prs,ints];refine hN _ ?_;try clear hN N
 refine AW.ret ?_;simp-dsimp-implicitDefEqProofs (disch:=omega)only[go_sem];exact⟨_,fun _ _ h=>h,_,rfl,by omega,by omega,by rw[upd_same,ivs_zero];rfl⟩
theorem spec_l10At_ok (os:List Int) (pw:List (List Int)) (cj:List (List (List Int))) (h:presOk os pw cj) (num:Int) (h0:0≤num) (h9:num≤1048576):ACp Tryz.prog 60 [prs os pw cj,.i .i64 num] (vi os.length (atV os num)):=by
 have hn6:=h.1.1
 have hpr:=h.2.1
 refine ACp.introV envOk Tryz.func60 rfl (by kernel_rfl) Tryz.ntmps60 Tryz.results60 ((vi_nr _ _)) (fun nx cX=>?_)
 refine AW.sr envOk (fun N hN=>?_);simp-dsimp-implicitDefEqProofs (disch:=omega)only[go_sem,prs,prsP,ints,gd_i];refine hN _ ?_;try clear hN N
 refine AW.freezeQ 2 nx _ rfl (upd_same _ _ _) ?_
 simp-dsimp-implicitDefEqProofs (disch:=omega)only[go_sem];refine AW.sr envOk (fun N hN=>?_);simp-dsimp-implicitDefEqProofs (disch:=omega)only[go_sem,prs,prsP,ints,gd_i];refine AC.mono (AC.frame (spec_l10One_n os pw cj (by omega) _)) ?_
 rintro m1 H1 r1 ⟨H0,⟨id,rfl,hid1,hid2,hHid⟩,hlow,hhigh⟩
 have hH1:=(hhigh id hid1).trans hHid
 clear hHid hhigh hlow
 try simp-dsimp-implicitDefEqProofs (disch:=omega)only[go_sem,prs,prsP,ints,gd_i]
 refine hN _ ?_;try clear hN N
 refine AW.seq (fun N1 hN1=>?_);refine AW.sr envOk (fun N hN=>?_);simp-dsimp-implicitDefEqProofs (disch:=omega)only[go_sem,prs,prsP,ints,gd_i];refine hN _ ?_;try clear hN N
 refine AW.block ?_;refine AW.loopN (α:=Nat) (fun x=>sl 34 [(1,.i .i64 (atN os num x)),(2,prsP os pw cj),(5,.h id 0 os.length),(6,.i .i64 ((os.length:Int)-1-x))]) (fun x=>upd noH id (some (ivs os.length (atP os num x)))) (fun x m=>x≤os.length) (fun x=>os.length-x) (0) ?_ ?_ (by rw[atP_zero];intro d cs hd;simp only[upd,noH]at hd ⊢;grind) ?_
 ·omega
 ·simp(disch:=omega) [wks,wkA,sl,prsP,ints,rows,cubes,atN]
 skip
 rintro k m hk
 simp-dsimp-implicitDefEqProofs (disch:=omega)only[go_sem];refine AW.seq (fun N2 hN2=>?_);refine AW.sr envOk (fun N hN=>?_);simp-dsimp-implicitDefEqProofs (disch:=omega)only[go_sem,prs,prsP,ints,gd_i];refine hN _ ?_;try clear hN N
 refine AW.cond rfl (fun h1=>?_) (fun h1=>?_)
 ·try simp only[cn]at h1
  have e1:((os.length:Int)-1-k).toNat=os.length-1-k:=by omega
  have ho:=pr4_bd (hpr (os.length-1-k) (by omega))
  have hz:(os.getD (os.length-1-k) 0=0)=False:=eq_false (by omega)
  have hb:=atN_bd h0 hpr k hk
  have hb2:=atN_bd h0 hpr (k+1) (by omega)
  have hs:(atN os num k).tdiv (os.getD (os.length-1-k) 0)=atN os num (k+1):=rfl
  have hg:=atP_next (os:=os) (num:=num) (d:=k) (by omega)
  refine AW.skip ?_;simp only[thn,blk];refine hN2 _ ?_;try clear hN2 N2
  refine AW.seq (fun N3 hN3=>?_);refine AW.block ?_;refine AW.sr envOk (fun N hN=>?_);simp-dsimp-implicitDefEqProofs (disch:=omega)only[go_sem,prs,prsP,ints,gd_i,e1,hz,not_false_eq_true,true_and,hg];refine hN _ ?_;try clear hN N
  refine AW.regionL envOk ?_;simp-dsimp-implicitDefEqProofs (disch:=omega)only[go_sem,prs,prsP,ints,gd_i,e1,hz,not_false_eq_true,true_and,hs];refine hN3 _ ?_;try clear hN3 N3
  refine AW.regionL envOk ?_;simp-dsimp-implicitDefEqProofs (disch:=omega)only[go_sem,prs,prsP,ints,gd_i];refine⟨k+1,?_,fun _ _ h=>h,?_,?_⟩
  ·simp(disch:=omega) [wks,wkA,sl,prsP,ints,rows,cubes,e1,hs]<;>omega
  ·omega
  first|omega|(simp only;omega)
 try simp only[cn]at h1
 refine AW.exit ?_;simp only[thn,blk,if_true];refine hN1 _ ?_;try clear hN1 N1
 refine AW.sr envOk (fun N hN=>?_);simp-dsimp-implicitDefEqProofs (disch:=omega)only[go_sem,prs,prsP,ints,gd_i];refine hN _ ?_;try clear hN N
 refine AW.ret ?_;simp-dsimp-implicitDefEqProofs (disch:=omega)only[go_sem];refine Vw.vi ?_
 rw[upd_same,show k=os.length by omega,atP_end]
theorem impl_elementAt_ok (os:List Int) (pw:List (List Int)) (cj:List (List (List Int))) (h:presOk os pw cj) (num:Int) (h0:0≤num) (h9:num≤1048576):ACp Tryz.prog 55 [prsP os pw cj,.i .i64 num] (vi os.length (atV os num)):=by
 have hn6:=h.1.1
 have hpr:=h.2.1
 refine ACp.introV envOk Tryz.func55 rfl (by kernel_rfl) Tryz.ntmps55 Tryz.results55 ((vi_nr _ _)) (fun nx cX=>?_)
 refine AW.sr envOk (fun N hN=>?_);simp-dsimp-implicitDefEqProofs (disch:=omega)only[go_sem,prs,prsP,ints,gd_i];refine hN _ ?_;try clear hN N
 refine AW.sr envOk (fun N hN=>?_);simp-dsimp-implicitDefEqProofs (disch:=omega)only[go_sem,prs,prsP,ints,gd_i];refine hN _ ?_;try clear hN N
 refine AW.seq (fun N1 hN1=>?_);refine AW.sr envOk (fun N hN=>?_);simp-dsimp-implicitDefEqProofs (disch:=omega)only[go_sem,prs,prsP,ints,gd_i];refine hN _ ?_;try clear hN N
 refine AW.block ?_;refine AW.loopN (α:=Nat) (fun x=>sl 42 [(0,prsP os pw cj),(1,.i .i64 (atN os num x)),(5,.h (nx+1+5) 0 os.length),(6,.i .i64 ((os.length:Int)-1-x))]) (fun x=>upd noH (nx+1+5) (some (ivs os.length (atP os num x)))) (fun x m=>x≤os.length) (fun x=>os.length-x) (0) ?_ ?_ (by rw[atP_zero,ivs_zero];exact Le.refl _) ?_
 ·omega
 ·simp(disch:=omega) [wks,wkA,sl,prsP,ints,rows,cubes,atN]
 skip
 rintro k m hk
 simp-dsimp-implicitDefEqProofs (disch:=omega)only[go_sem];refine AW.seq (fun N2 hN2=>?_);refine AW.sr envOk (fun N hN=>?_);simp-dsimp-implicitDefEqProofs (disch:=omega)only[go_sem,prs,prsP,ints,gd_i];refine hN _ ?_;try clear hN N
 refine AW.cond rfl (fun h1=>?_) (fun h1=>?_)
 ·try simp only[cn]at h1
  have e1:((os.length:Int)-1-k).toNat=os.length-1-k:=by omega
  have ho:=pr4_bd (hpr (os.length-1-k) (by omega))
  have hz:(os.getD (os.length-1-k) 0=0)=False:=eq_false (by omega)
  have hb:=atN_bd h0 hpr k hk
  have hb2:=atN_bd h0 hpr (k+1) (by omega)
  have hs:(atN os num k).tdiv (os.getD (os.length-1-k) 0)=atN os num (k+1):=rfl
  have hg:=atP_next (os:=os) (num:=num) (d:=k) (by omega)
  refine AW.skip ?_;simp only[thn,blk];refine hN2 _ ?_;try clear hN2 N2
  refine AW.seq (fun N3 hN3=>?_);refine AW.block ?_;refine AW.sr envOk (fun N hN=>?_);simp-dsimp-implicitDefEqProofs (disch:=omega)only[go_sem,prs,prsP,ints,gd_i,e1,hz,not_false_eq_true,true_and,hg];refine hN _ ?_;try clear hN N
  refine AW.regionL envOk ?_;simp-dsimp-implicitDefEqProofs (disch:=omega)only[go_sem,prs,prsP,ints,gd_i,e1,hz,not_false_eq_true,true_and,hs];refine hN3 _ ?_;try clear hN3 N3
  refine AW.regionL envOk ?_;simp-dsimp-implicitDefEqProofs (disch:=omega)only[go_sem,prs,prsP,ints,gd_i];refine⟨k+1,?_,fun _ _ h=>h,?_,?_⟩
  ·simp(disch:=omega) [wks,wkA,sl,prsP,ints,rows,cubes,e1,hs]<;>omega
  ·omega
  first|omega|(simp only;omega)
 try simp only[cn]at h1
 refine AW.exit ?_;simp only[thn,blk,if_true];refine hN1 _ ?_;try clear hN1 N1
 refine AW.sr envOk (fun N hN=>?_);simp-dsimp-implicitDefEqProofs (disch:=omega)only[go_sem,prs,prsP,ints,gd_i];refine hN _ ?_;try clear hN N
 refine AW.ret ?_;simp-dsimp-implicitDefEqProofs (disch:=omega)only[go_sem];refine Vw.vi ?_
 rw[upd_same,show k=os.length by omega,atP_end]
def atR (os:List Int) (num:Int):List Int:=vec os.length (atV os num)
theorem atR_vi {os:List Int} {num:Int}:vi os.length (atV os num)=ints (atR os num):=vi_ints.symm
theorem atR_ex {os:List Int} {num:Int} (h0:0≤num) (hp:∀i,i<os.length→pr4 (os.getD i 0)):exP os (atR os num):=by
  refine⟨vec_len,fun k hk=>?_⟩
  rw[atR,vec_len]at hk
  have:=atV_rg h0 hp hk
  rw[atR,vec_get hk]
  omega
def dvN (N:Int) (num:Int):Nat→Int
  |0=>num
  |d+1=>(dvN N num d).tdiv N
theorem dvN_bd {N num:Int} (h0:0≤num) (h1:1≤N):∀d,0≤dvN N num d∧dvN N num d≤num:=by
  intro d
  induction d with
  |zero=>exact⟨h0,Int.le_refl _⟩
  | succ d ih=>
    rw[dvN,Int.tdiv_eq_ediv_of_nonneg ih.1]
    exact⟨Int.ediv_nonneg ih.1 (by omega),Int.le_trans (Int.ediv_le_self _ ih.1) ih.2⟩
def pcz (c:Nat) (p:Nat→Bool) (f:Nat→List Int):List AV:=(List.range c).map fun i=>if p i=true then ints (f i)else .nl
theorem pcz_len {c:Nat} {p:Nat→Bool} {f:Nat→List Int}:(pcz c p f).length=c:=by simp[pcz]
theorem pcs_set {c:Nat} {p q:Nat→Bool} {f:Nat→List Int} {i:Nat} (hi:i<c) (h1:q i=true) (h2:∀j,j≠i→q j=p j):splice (pcz c p f) i [ints (f i)]=pcz c q f:=by
  rw[splice_one _ _ _ (by rw[pcz_len];exact hi)]
  apply List.ext_getElem?
  intro j
  rw[List.getElem?_set]
  by_cases hj:i=j
  · subst hj;simp[pcz,hi,h1]
  simp only[hj,if_false,pcz,List.getElem?_map]
  by_cases hn:j<c
  · simp[hn,h2 j (Ne.symm hj)]
  simp[hn]
theorem pcs_none {c:Nat} {p:Nat→Bool} {f:Nat→List Int} (h:∀i,i<c→p i=false):pcz c p f=List.replicate c .nl:=by
  apply List.ext_getElem?
  intro i
  by_cases hi:i<c
  · simp[pcz,hi,h i hi]
  simp[pcz,hi]
theorem pcs_all {c:Nat} {p:Nat→Bool} {f:Nat→List Int} (h:∀i,i<c→p i=true):pcz c p f=((List.range c).map f).map ints:=by
  unfold pcz
  rw[List.map_map]
  refine List.map_congr_left fun i hi=>?_
  rw[if_pos (h i (List.mem_range.1 hi))];rfl
attribute [go_sem] pcz_len
def tupS (os:List Int) (N:Int) (c:Nat) (num:Int):List (List Int):=(List.range c).map fun i=>atR os ((dvN N num (c-1-i)).tmod N)
def tupI (os:List Int) (N:Int) (c:Nat) (num:Int):List (List Int):=(List.range c).map fun i=>atR os ((dvN N num i).tmod N)
theorem spec_l16Tuple_ok (os:List Int) (pw:List (List Int)) (cj:List (List (List Int))) (h:presOk os pw cj) (c:Nat) (hc:c≤1000) (num:Int) (h0:0≤num) (h9:num≤1048576):ACp Tryz.prog 27 [prs os pw cj,.i .i64 c,.i .i64 num] (rows (tupS os (prd os os.length) c num)):=by
 have hq:=h.2.2.1
 have hpr:=h.2.1
 have hq1:=prd_pos hpr os.length (Nat.le_refl _)
 have hor:=spec_l10Order_ok os pw cj h
 obtain⟨Nq,hqe⟩:∃Nq,prd os os.length=Nq:=⟨_,rfl⟩
 rw[hqe]at hq hq1 hor ⊢
 refine ACp.introV envOk Tryz.func27 rfl (by kernel_rfl) Tryz.ntmps27 Tryz.results27 ((rows_nr _)) (fun nx cX=>?_)
 refine AW.sr envOk (fun N hN=>?_);simp-dsimp-implicitDefEqProofs (disch:=omega)only[go_sem,prs,prsP];refine hN _ ?_;try clear hN N
 refine AW.freezeQ 3 nx _ rfl (upd_same _ _ _) ?_
 simp-dsimp-implicitDefEqProofs (disch:=omega)only[go_sem];refine AW.sr envOk (fun N hN=>?_);simp-dsimp-implicitDefEqProofs (disch:=omega)only[go_sem,prs,prsP];refine hN _ ?_;try clear hN N
 refine AW.seq (fun N1 hN1=>?_);refine AW.sr envOk (fun N hN=>?_);simp-dsimp-implicitDefEqProofs (disch:=omega)only[go_sem,prs,prsP];refine hN _ ?_;try clear hN N
 refine AW.block ?_;refine AW.loopN (α:=Nat) (fun x=>sl 31 [(2,.i .i64 (dvN Nq num x)),(3,prsP os pw cj),(7,.h (nx+2+1) 0 c),(8,.i .i64 ((c:Int)-1-x))]) (fun x=>upd noH (nx+2+1) (some (pcz c (fun i=>decide (c≤i+x)) (fun i=>atR os ((dvN Nq num (c-1-i)).tmod Nq))))) (fun x m=>x≤c) (fun x=>c-x) (0) ?_ ?_ (by rw[pcs_none (fun i hi=>by simp;omega)];intro d cs hd;simp only[upd,noH]at hd ⊢;grind) ?_
 ·omega
 ·simp(disch:=omega) [wks,wkA,sl,prsP,ints,rows,cubes,dvN]
 skip
 rintro k m hk
 simp-dsimp-implicitDefEqProofs (disch:=omega)only[go_sem];refine AW.seq (fun N2 hN2=>?_);refine AW.sr envOk (fun N hN=>?_);simp-dsimp-implicitDefEqProofs (disch:=omega)only[go_sem,prs,prsP];refine hN _ ?_;try clear hN N
 refine AW.cond rfl (fun h1=>?_) (fun h1=>?_)
 ·try simp only[cn]at h1
  have e1:((c:Int)-1-k).toNat=c-1-k:=by omega
  have hz:(Nq=0)=False:=eq_false (by omega)
  have hb:=dvN_bd h0 hq1 k
  have hs:(dvN Nq num k).tdiv Nq=dvN Nq num (k+1):=rfl
  have hb2:=dvN_bd h0 hq1 (k+1)
  have hr:0≤(dvN Nq num k).tmod Nq∧(dvN Nq num k).tmod Nq≤1048576:=by
   rw[Int.tmod_eq_emod_of_nonneg hb.1]
   have:=Int.emod_lt_of_pos (dvN Nq num k) (show 0<Nq by omega)
   have:=Int.emod_nonneg (dvN Nq num k) (show Nq≠0 by omega)
   omega
  have hg:splice (pcz c (fun i=>decide (c≤i+k)) (fun i=>atR os ((dvN Nq num (c-1-i)).tmod Nq))) (c-1-k) [ints (atR os ((dvN Nq num k).tmod Nq))]=pcz c (fun i=>decide (c≤i+(k+1))) (fun i=>atR os ((dvN Nq num (c-1-i)).tmod Nq)):=by
   have:=pcs_set (c:=c) (p:=fun i=>decide (c≤i+k)) (q:=fun i=>decide (c≤i+(k+1))) (f:=fun i=>atR os ((dvN Nq num (c-1-i)).tmod Nq)) (i:=c-1-k) (by omega) (by simp;omega) (fun j hj=>by simp;omega)
   simp only[show c-1-(c-1-k)=k by omega]at this
   exact this
  refine AW.skip ?_;simp only[thn,blk];refine hN2 _ ?_;try clear hN2 N2
  refine AW.seq (fun N3 hN3=>?_);refine AW.block ?_;refine AW.seq (fun N hN=>?_);refine AW.drawL envOk (by kernel_rfl) 9 (by kernel_rfl) ?_
  simp-dsimp-implicitDefEqProofs (disch:=omega)only[hr_nil,hr_one,hr_if,List.take_succ_cons,List.take_zero,List.drop_succ_cons,List.drop_zero,List.take_nil,List.drop_nil,go_sem,undef,prs,prsP,w64,e1,hz,not_false_eq_true,true_and,hg];refine⟨_,.of (hor),?_⟩
  try simp-dsimp-implicitDefEqProofs (disch:=omega)only[go_sem,prs,prsP]
  refine⟨_,.of (atR_vi▸spec_l10At_ok os pw cj h _ hr.1 hr.2),?_⟩
  try simp-dsimp-implicitDefEqProofs (disch:=omega)only[go_sem,prs,prsP,e1,hg]
  refine hN _ ?_;try clear hN N
  refine AW.regionL envOk ?_;simp-dsimp-implicitDefEqProofs (disch:=omega)only[go_sem,prs,prsP,hz,not_false_eq_true,true_and,hs];refine AC.pure (.of (hor)) ?_;try simp-dsimp-implicitDefEqProofs (disch:=omega)only[go_sem,prs,prsP]
  refine hN3 _ ?_;try clear hN3 N3
  refine AW.regionL envOk ?_;simp-dsimp-implicitDefEqProofs (disch:=omega)only[go_sem,prs,prsP];refine⟨k+1,?_,fun _ _ h=>h,?_,?_⟩
  ·simp(disch:=omega) [wks,wkA,sl,prsP,ints,rows,cubes,hs]<;>omega
  ·omega
  first|omega|(simp only;omega)
 try simp only[cn]at h1
 refine AW.exit ?_;simp only[thn,blk,if_true];refine hN1 _ ?_;try clear hN1 N1
 refine AW.sr envOk (fun N hN=>?_);simp-dsimp-implicitDefEqProofs (disch:=omega)only[go_sem,prs,prsP];refine hN _ ?_;try clear hN N
 refine AW.ret ?_;simp-dsimp-implicitDefEqProofs (disch:=omega)only[go_sem];refine Vw.rws ?_ ?_
 ·simp[tupS]
 rw[upd_same,show k=c by omega,pcs_all (fun i hi=>by simp)];rfl
noncomputable def cntF (p:Nat→Prop):Nat→Int
  |0=>0
  |k+1=>if tf (p k)=true then cntF p k+1 else cntF p k
theorem cntF_bd {p:Nat→Prop}:∀k:Nat,0≤cntF p k∧cntF p k≤k:=by
  intro k
  induction k with
  |zero=>simp[cntF]
  |succ k ih=>rw[cntF];split<;>omega
def resN (v e:Int):AV:= .t [.i .i64 v,.i .i64 e]
theorem resN_nr (v e:Int):NR (resN v e):= .t _ (fun k x hk=>by
  match k,hk with
  |0,hk=>cases hk;exact .i _ _
  |1,hk=>cases hk;exact .i _ _)
noncomputable def cceP (ok:Prop) (t:Int):Int:=if tf ok=true then (if t≤4096 then 0 else 3)else 1
noncomputable def ccvP (ok:Prop) (t v:Int):Int:=if tf ok=true then (if t≤4096 then v else 0)else 0
theorem res_no {ok:Prop} {t v:Int} (h:¬ok):resN (ccvP ok t v) (cceP ok t)= .t [.i .i64 0,.i .i64 1]:=by simp[resN,ccvP,cceP,tf_f h]
theorem res_lim {ok:Prop} {t v:Int} (h:ok) (ht:4096<t):resN (ccvP ok t v) (cceP ok t)= .t [.i .i64 0,.i .i64 3]:=by simp[resN,ccvP,cceP,tf_t h,Int.not_le.2 ht]
theorem res_yes {ok:Prop} {t v:Int} (h:ok) (ht:t≤4096):resN (ccvP ok t v) (cceP ok t)= .t [.i .i64 v,.i .i64 0]:=by simp[resN,ccvP,cceP,tf_t h,ht]
theorem tup_len {os:List Int} {N num:Int} {c:Nat}:(tupS os N c num).length=c:=by simp[tupS]
theorem tupI_len {os:List Int} {N num:Int} {c:Nat}:(tupI os N c num).length=c:=by simp[tupI]
theorem tmod_nn {a b:Int} (h:0≤a) (hb:1≤b):0≤a.tmod b:=by
  rw[Int.tmod_eq_emod_of_nonneg h]
  exact Int.emod_nonneg _ (by omega)
theorem tupS_ex {os:List Int} {N num:Int} {c:Nat} (hp:∀i,i<os.length→pr4 (os.getD i 0)) (h0:0≤num) (h1:1≤N):exsP os (tupS os N c num):=by
  intro k hk
  rw[tup_len]at hk
  rw[show(tupS os N c num).getD k []=atR os ((dvN N num (c-1-k)).tmod N) by simp[tupS,hk]]
  exact atR_ex (tmod_nn (dvN_bd h0 h1 _).1 h1) hp
theorem tupI_ex {os:List Int} {N num:Int} {c:Nat} (hp:∀i,i<os.length→pr4 (os.getD i 0)) (h0:0≤num) (h1:1≤N):exsP os (tupI os N c num):=by
  intro k hk
  rw[tupI_len]at hk
  rw[show(tupI os N c num).getD k []=atR os ((dvN N num k).tmod N) by simp[tupI,hk]]
  exact atR_ex (tmod_nn (dvN_bd h0 h1 _).1 h1) hp
theorem stq_stay {N:Int} {k:Nat} (h:4096<stq N k):∀d,stq N (k+d)=stq N k:=by
  intro d
  induction d with
  |zero=>rfl
  |succ d ih=>rw[Nat.add_succ,stq,ih,if_neg (by omega)]
theorem stq_over {N:Int} {k c:Nat} (h:4096<stq N k) (hc:k≤c):4096<stq N c:=by
  have:=stq_stay h (c-k)
  rw[show k+(c-k)=c by omega]at this
  omega
theorem impl_countTuples_ok (os:List Int) (pw:List (List Int)) (cj:List (List (List Int))) (h:presOk os pw cj) (c:Nat) (hc:c≤1000) (fid:Nat) (cs:List AV) (pp:Nat→Prop) (hf:∀k:Nat,(k:Int)≤4096→ACp Tryz.prog fid ([rows (tupI os (prd os os.length) c k)]++cs) (.b (tf (pp k)))):ACp Tryz.prog 35 [prsP os pw cj,.i .i64 c,.f fid cs] (resN (ccvP True (stq (prd os os.length) c) (cntF pp (stq (prd os os.length) c).toNat)) (cceP True (stq (prd os os.length) c))):=by
 have hq:=h.2.2.1
 have hpr:=h.2.1
 have hq1:=prd_pos hpr os.length (Nat.le_refl _)
 have hor:=impl_orderOf_ok os pw cj h
 obtain⟨Nq,hqe⟩:∃Nq,prd os os.length=Nq:=⟨_,rfl⟩
 rw[hqe]at hq hq1 hor hf ⊢
 refine ACp.intro' envOk Tryz.func35 rfl (by kernel_rfl) Tryz.ntmps35 Tryz.results35 (resN_nr _ _) (fun nx cX=>?_)
 refine AW.sr envOk (fun N hN=>?_);simp-dsimp-implicitDefEqProofs (disch:=omega)only[go_sem];refine hN _ ?_;try clear hN N
 refine AW.sr envOk (fun N hN=>?_);simp-dsimp-implicitDefEqProofs (disch:=omega)only[go_sem];refine AC.pure (.of (hor)) ?_;try simp-dsimp-implicitDefEqProofs (disch:=omega)only[go_sem]
 refine hN _ ?_;try clear hN N
 refine AW.seq (fun N1 hN1=>?_);refine AW.sr envOk (fun N hN=>?_);simp-dsimp-implicitDefEqProofs (disch:=omega)only[go_sem];refine hN _ ?_;try clear hN N
 refine AW.block ?_;refine AW.loopN (α:=Nat) (fun x=>sl 55 [(0,prsP os pw cj),(1,.i .i64 c),(2,.f fid cs),(8,.i .i64 Nq),(9,.i .i64 (stq Nq x)),(16,.i .i64 c),(17,.i .i64 x)]) (fun _=>noH) (fun x m=>x≤c∧stq Nq x≤4096) (fun x=>c-x) (0) ?_ ?_ (fun _ _ h=>h) ?_
 ·exact⟨by omega,by simp[stq]⟩
 ·simp(disch:=omega) [wks,wkA,sl,stq]
 skip
 rintro k m ⟨hk,h49⟩
 simp-dsimp-implicitDefEqProofs (disch:=omega)only[go_sem];have hb:=stq_bd hq1 hq k
 have hm:=mul_bd hb.1 h49 hq1 hq
 have hs:stq Nq (k+1)=stq Nq k*Nq:=by rw[stq,if_pos h49]
 refine AW.sr envOk (fun N hN=>?_);simp-dsimp-implicitDefEqProofs (disch:=omega)only[go_sem];refine hN _ ?_;try clear hN N
 refine AW.seq (fun N2 hN2=>?_);refine AW.cond rfl (fun h1=>?_) (fun h1=>?_)
 ·try simp only[cn]at h1
  refine AW.skip ?_;simp only[thn,blk];refine hN2 _ ?_;try clear hN2 N2
  refine AW.seq (fun N3 hN3=>?_);refine AW.block ?_;refine AW.sr envOk (fun N hN=>?_);simp-dsimp-implicitDefEqProofs (disch:=omega)only[go_sem];refine hN _ ?_;try clear hN N
  refine AW.sr envOk (fun N hN=>?_);simp-dsimp-implicitDefEqProofs (disch:=omega)only[go_sem];refine hN _ ?_;try clear hN N
  refine AW.cond rfl (fun h2=>?_) (fun h2=>?_)
  ·try simp only[cn]at h2
   refine AW.sr envOk (fun N hN=>?_);simp-dsimp-implicitDefEqProofs (disch:=omega)only[go_sem];refine hN _ ?_;try clear hN N
   refine AW.ret ?_;simp-dsimp-implicitDefEqProofs (disch:=omega)only[go_sem];exact(res_lim trivial (stq_over (k:=k+1) (by omega) (by omega))).symm
  try simp only[cn]at h2
  refine AW.skip ?_;simp only[thn,blk];refine hN3 _ ?_;try clear hN3 N3
  refine AW.regionL envOk ?_;simp-dsimp-implicitDefEqProofs (disch:=omega)only[go_sem];refine⟨k+1,?_,fun _ _ h=>h,?_,?_⟩
  ·simp(disch:=omega) [wks,wkA,sl,hs]
  ·exact⟨by omega,by omega⟩
  first|omega|(simp only;omega)
 try simp only[cn]at h1
 refine AW.exit ?_;simp only[thn,blk,if_true];refine hN1 _ ?_;try clear hN1 N1
 refine AW.sr envOk (fun N hN=>?_);simp-dsimp-implicitDefEqProofs (disch:=omega)only[go_sem];refine hN _ ?_;try clear hN N
 refine AW.seq (fun N4 hN4=>?_);refine AW.sr envOk (fun N hN=>?_);simp-dsimp-implicitDefEqProofs (disch:=omega)only[go_sem];refine hN _ ?_;try clear hN N
 refine AW.block ?_;have hkc:c=k:=by omega
 subst hkc
 obtain⟨tt,htt⟩:∃tt,stq Nq c=tt:=⟨_,rfl⟩
 rw[htt]at h49 hb ⊢
 refine AW.loopN (α:=Nat) (fun x=>sl 55 [(0,prsP os pw cj),(1,.i .i64 c),(2,.f fid cs),(8,.i .i64 Nq),(10,.i .i64 (cntF pp x)),(25,.i .i64 tt),(26,.i .i64 x)]) (fun _=>noH) (fun x m=>x≤tt.toNat) (fun x=>tt.toNat-x) (0) ?_ ?_ (fun _ _ h=>h) ?_
 ·omega
 ·simp(disch:=omega) [wks,wkA,sl,cntF,htt]
 skip
 rintro t m2 ht
 simp-dsimp-implicitDefEqProofs (disch:=omega)only[go_sem];have hcb:=cntF_bd (p:=pp) t
 refine AW.sr envOk (fun N hN=>?_);simp-dsimp-implicitDefEqProofs (disch:=omega)only[go_sem];refine hN _ ?_;try clear hN N
 refine AW.seq (fun N5 hN5=>?_);refine AW.cond rfl (fun h3=>?_) (fun h3=>?_)
 ·try simp only[cn]at h3
  refine AW.skip ?_;simp only[thn,blk];refine hN5 _ ?_;try clear hN5 N5
  refine AW.seq (fun N6 hN6=>?_);refine AW.block ?_;refine AW.sr envOk (fun N hN=>?_);simp-dsimp-implicitDefEqProofs (disch:=omega)only[go_sem];refine hN _ ?_;try clear hN N
  refine AW.sr envOk (fun N hN=>?_);simp-dsimp-implicitDefEqProofs (disch:=omega)only[go_sem];refine hN _ ?_;try clear hN N
  refine AW.seq (fun N7 hN7=>?_);refine AW.sr envOk (fun N hN=>?_);simp-dsimp-implicitDefEqProofs (disch:=omega)only[go_sem];refine hN _ ?_;try clear hN N
  refine AW.block ?_;refine AW.loopN (α:=Nat) (fun x=>sl 55 [(0,prsP os pw cj),(1,.i .i64 c),(2,.f fid cs),(8,.i .i64 Nq),(10,.i .i64 (cntF pp t)),(11,.i .i64 (dvN Nq t x)),(12,.h (m2+1+2+1) 0 c),(25,.i .i64 tt),(26,.i .i64 t),(32,.i .i64 c),(33,.i .i64 x)]) (fun x=>upd noH (m2+1+2+1) (some (pcz c (fun i=>decide (i<x)) (fun i=>atR os ((dvN Nq t i).tmod Nq))))) (fun x m=>x≤c) (fun x=>c-x) (0) ?_ ?_ (by rw[pcs_none (fun i hi=>by simp)];exact Le.refl _) ?_
  ·omega
  ·simp(disch:=omega) [wks,wkA,sl,dvN]
  skip
  rintro x m3 hx
  simp-dsimp-implicitDefEqProofs (disch:=omega)only[go_sem];refine AW.sr envOk (fun N hN=>?_);simp-dsimp-implicitDefEqProofs (disch:=omega)only[go_sem];refine hN _ ?_;try clear hN N
  refine AW.seq (fun N8 hN8=>?_);refine AW.cond rfl (fun h4=>?_) (fun h4=>?_)
  ·try simp only[cn]at h4
   have hb3:=dvN_bd (num:=(t:Int)) (by omega) hq1 x
   have hz:(Nq=0)=False:=eq_false (by omega)
   have hs3:(dvN Nq t x).tdiv Nq=dvN Nq t (x+1):=rfl
   have hb4:=dvN_bd (num:=(t:Int)) (by omega) hq1 (x+1)
   have hr:0≤(dvN Nq t x).tmod Nq∧(dvN Nq t x).tmod Nq≤1048576:=by
    rw[Int.tmod_eq_emod_of_nonneg hb3.1]
    have:=Int.emod_lt_of_pos (dvN Nq t x) (show 0<Nq by omega)
    have:=Int.emod_nonneg (dvN Nq t x) (show Nq≠0 by omega)
    omega
   have hg:splice (pcz c (fun i=>decide (i<x)) (fun i=>atR os ((dvN Nq t i).tmod Nq))) x [ints (atR os ((dvN Nq t x).tmod Nq))]=pcz c (fun i=>decide (i<x+1)) (fun i=>atR os ((dvN Nq t i).tmod Nq)):=
    pcs_set (c:=c) (p:=fun i=>decide (i<x)) (q:=fun i=>decide (i<x+1)) (f:=fun i=>atR os ((dvN Nq t i).tmod Nq)) (i:=x) (by omega) (by simp) (fun j hj=>by simp;omega)
   refine AW.skip ?_;simp only[thn,blk];refine hN8 _ ?_;try clear hN8 N8
   refine AW.seq (fun N9 hN9=>?_);refine AW.block ?_;refine AW.sr envOk (fun N hN=>?_);simp-dsimp-implicitDefEqProofs (disch:=omega)only[go_sem];refine hN _ ?_;try clear hN N
   refine AW.sr envOk (fun N hN=>?_);simp-dsimp-implicitDefEqProofs (disch:=omega)only[go_sem];refine AC.pure (.of (atR_vi▸impl_elementAt_ok os pw cj h _ hr.1 hr.2)) ?_;try simp-dsimp-implicitDefEqProofs (disch:=omega)only[go_sem,hg]
   refine hN _ ?_;try clear hN N
   refine AW.regionL envOk ?_;simp-dsimp-implicitDefEqProofs (disch:=omega)only[go_sem,hs3];refine hN9 _ ?_;try clear hN9 N9
   refine AW.regionL envOk ?_;simp-dsimp-implicitDefEqProofs (disch:=omega)only[go_sem];refine⟨x+1,?_,fun _ _ h=>h,?_,?_⟩
   ·simp(disch:=omega) [wks,wkA,sl,hs3]
   ·omega
   first|omega|(simp only;omega)
  try simp only[cn]at h4
  refine AW.exit ?_;simp only[thn,blk,if_true];refine hN7 _ ?_;try clear hN7 N7
  refine AW.sr envOk (fun N hN=>?_);simp-dsimp-implicitDefEqProofs (disch:=omega)only[go_sem];have hxc:c=x:=by omega
  subst hxc
  refine AC.pure (.lent (hf t (by omega)) (.cons (Vw.rws (by simp[tupI]) (by rw[upd_same,pcs_all (fun i hi=>by simpa using hi)];rfl)) Vws.rfl) (.b _)) ?_
  try simp-dsimp-implicitDefEqProofs (disch:=omega)only[go_sem]
  refine hN _ ?_;try clear hN N
  refine AW.cond rfl (fun h5=>?_) (fun h5=>?_)
  ·try simp only[cn]at h5
   have hs:cntF pp (t+1)=cntF pp t+1:=by rw[cntF,if_pos (tf_t h5)]
   refine AW.regionL envOk ?_;simp-dsimp-implicitDefEqProofs (disch:=omega)only[go_sem];refine hN6 _ ?_;try clear hN6 N6
   refine AW.regionL envOk ?_;simp-dsimp-implicitDefEqProofs (disch:=omega)only[go_sem];refine⟨t+1,?_,(by intro d cs hd;cases hd),?_,?_⟩
   ·simp(disch:=omega) [wks,wkA,sl,hs]
   ·omega
   first|omega|(simp only;omega)
  try simp only[cn]at h5
  have hs:cntF pp (t+1)=cntF pp t:=by rw[cntF,if_neg (by rw[tf_f h5];simp)]
  refine AW.skip ?_;simp only[thn,blk];refine hN6 _ ?_;try clear hN6 N6
  refine AW.regionL envOk ?_;simp-dsimp-implicitDefEqProofs (disch:=omega)only[go_sem];refine⟨t+1,?_,(by intro d cs hd;cases hd),?_,?_⟩
  ·simp(disch:=omega) [wks,wkA,sl,hs]
  ·omega
  first|omega|(simp only;omega)
 try simp only[cn]at h3
 refine AW.exit ?_;simp only[thn,blk,if_true];refine hN4 _ ?_;try clear hN4 N4
 refine AW.sr envOk (fun N hN=>?_);simp-dsimp-implicitDefEqProofs (disch:=omega)only[go_sem];refine hN _ ?_;try clear hN N
 refine AW.ret ?_;simp-dsimp-implicitDefEqProofs (disch:=omega)only[go_sem];rw[show t=tt.toNat by omega,htt];exact(res_yes trivial (by omega)).symm
end Go.Proofs.YtghmeeifjeafmaaGreat
