import Derived.Test.YtnlfbimjcabgiaaGreatZ26
import Derived.Test.YtnlfbimjcabgiaaGreatZ28
import Derived.Test.YtnlfbimjcabgiaaGreatZ33
set_option linter.unusedVariables false
set_option linter.unusedSimpArgs false
namespace Go.Proofs.YtnlfbimjcabgiaaGreat
open Nat (reduceAdd reduceSub reduceGT reduceEqDiff reduceMul)
section
variable {s b:Nat} {z:Value} {q:Bool} {o:Nat} {cs:List AV} {k:AV→Prop}
theorem rdc_sl {t:TypeId}:rdc ⟨.slice t,s,b,z,q⟩ o cs k=(o<cs.length∧k (cs.getD o .j)):=by unfold rdc;simp[TE.agg]
theorem rdc_in {t:IntKind}:rdc ⟨.int t,s,b,z,q⟩ o cs k=(o<cs.length∧k (cs.getD o .j)):=by unfold rdc;simp[TE.agg]
theorem rdc_ot:rdc ⟨.other,s,b,z,q⟩ o cs k=(o<cs.length∧k (cs.getD o .j)):=by unfold rdc;simp[TE.agg]
end
attribute [go_sem ↓] rdc_sl rdc_in rdc_ot
theorem impl_depthOf_v (n:Nat) (hn:n≤1048576) (f:V):ACp Tryz.prog 109 [vi n f] (.i .i64 (ldV n f)):=by
 refine ACp.intro' envOk Tryz.func109 rfl (by kernel_rfl) Tryz.ntmps109 Tryz.results109 (.i _ _) (fun nx=> ?_)
 refine AW.sr envOk (fun N hN=> ?_)
 simp-dsimp-implicitDefEqProofs (maxSteps:=800000) (disch:=omega) only[go_sem,undef,w64,vi]
 refine hN _ ?_
 try clear hN N
 refine AW.seq (fun N1 hN1=> ?_)
 refine AW.sr envOk (fun N hN=> ?_)
 simp-dsimp-implicitDefEqProofs (maxSteps:=800000) (disch:=omega) only[go_sem,undef,w64,vi]
 refine hN _ ?_
 try clear hN N
 refine AW.block ?_
 refine AW.loopN (α:=Nat) (fun x=>sl 18 [(0,vi n f),(5,vi n f),(6,.i .i64 n),(7,.i .i64 x)]) (fun _=>noH) (fun x m=>x≤n∧ldG f (n-x) x=ldV n f) (fun x=>n-x) (0) ?_ ?_ (fun _ _ h=>h) ?_
 ·exact⟨by omega,rfl⟩
 ·simp(disch:=omega) [wks,wkA,sl,vi]
 ·skip
  rintro k m ⟨hk,hI⟩
  simp-dsimp-implicitDefEqProofs (maxSteps:=800000) (disch:=omega) only[go_sem,undef]
  refine AW.sr envOk (fun N hN=> ?_)
  simp-dsimp-implicitDefEqProofs (maxSteps:=800000) (disch:=omega) only[go_sem,undef,w64,vi]
  refine hN _ ?_
  try clear hN N
  refine AW.seq (fun N2 hN2=> ?_)
  refine AW.cond rfl (fun h1=> ?_) (fun h1=> ?_)
  ·try simp only[cn]at h1
   have hs:ldG f (n-k) k=if f k=0 then ldG f (n-(k+1)) (k+1)else k:=by
    obtain⟨q,hq⟩:∃q,n-k=q+1:=⟨n-k-1,by omega⟩
    rw[hq,ldG,show n-(k+1)=q by omega]
   refine AW.skip ?_
   simp only[thn,blk]
   refine hN2 _ ?_
   try clear hN2 N2
   refine AW.seq (fun N3 hN3=> ?_)
   refine AW.block ?_
   refine AW.sr envOk (fun N hN=> ?_)
   simp-dsimp-implicitDefEqProofs (maxSteps:=800000) (disch:=omega) only[go_sem,undef,w64,vi]
   refine hN _ ?_
   try clear hN N
   refine AW.sr envOk (fun N hN=> ?_)
   simp-dsimp-implicitDefEqProofs (maxSteps:=800000) (disch:=omega) only[go_sem,undef,w64,vi]
   refine hN _ ?_
   try clear hN N
   refine AW.cond rfl (fun h2=> ?_) (fun h2=> ?_)
   ·try simp only[cn]at h2
    refine AW.sr envOk (fun N hN=> ?_)
    simp-dsimp-implicitDefEqProofs (maxSteps:=800000) (disch:=omega) only[go_sem,undef,w64,vi]
    refine hN _ ?_
    try clear hN N
    refine AW.ret ?_
    simp-dsimp-implicitDefEqProofs (maxSteps:=800000) (disch:=omega) only[go_sem,undef]
    rw[←hI,hs,if_neg h2]
   ·try simp only[cn]at h2
    refine AW.skip ?_
    simp only[thn,blk]
    refine hN3 _ ?_
    try clear hN3 N3
    refine AW.regionL envOk ?_
    simp-dsimp-implicitDefEqProofs (maxSteps:=800000) (disch:=omega) only[go_sem,undef,w64,vi]
    refine⟨k+1,?_,fun _ _ h=>h,?_,?_⟩
    ·simp(disch:=omega) [wks,wkA,sl,w64,ints,rows,cubes,w64,vi]<;>omega
    ·exact⟨by omega,by rw[←hI,hs,if_pos h2]⟩
    ·first|omega|(simp only;omega)
  ·try simp only[cn]at h1
   refine AW.exit ?_
   simp only[thn,blk,if_true]
   refine hN1 _ ?_
   try clear hN1 N1
   refine AW.sr envOk (fun N hN=> ?_)
   simp-dsimp-implicitDefEqProofs (maxSteps:=800000) (disch:=omega) only[go_sem,undef,w64,vi]
   refine hN _ ?_
   try clear hN N
   refine AW.ret ?_
   simp-dsimp-implicitDefEqProofs (maxSteps:=800000) (disch:=omega) only[go_sem,undef]
   rw[←hI,show n-k=0 by omega,ldG,show k=n by omega]
theorem impl_pivots_1_v (a:Int):ACp Tryz.prog 149 [.i .i64 a] (.b (a !=0)):=by
 refine ACp.intro' envOk Tryz.func149 rfl (by kernel_rfl) Tryz.ntmps149 Tryz.results149 (.b _) (fun nx=> ?_)
 refine AW.sr envOk (fun N hN=> ?_)
 simp-dsimp-implicitDefEqProofs (maxSteps:=800000) (disch:=omega) only[go_sem,undef,]
 refine hN _ ?_
 try clear hN N
 refine AW.sr envOk (fun N hN=> ?_)
 simp-dsimp-implicitDefEqProofs (maxSteps:=800000) (disch:=omega) only[go_sem,undef,]
 refine hN _ ?_
 try clear hN N
 refine AW.ret ?_
 simp-dsimp-implicitDefEqProofs (maxSteps:=800000) (disch:=omega) only[go_sem,undef]
 skip
theorem slices_IndexFunc_v (n:Nat) (f:V) (hn:n≤1048576) (hd:ldV n f<n):ACp Tryz.prog 148 [vi n f,.f 149 []] (.i .i64 (ldV n f)):=by
 have hsp:=(ldG_sp (x:=f) n 0).2.2.2 (by unfold ldV at hd;omega)
 refine ACp.intro' envOk Tryz.func148 rfl (by kernel_rfl) Tryz.ntmps148 Tryz.results148 (.i _ _) (fun nx=> ?_)
 refine AW.sr envOk (fun N hN=> ?_)
 simp-dsimp-implicitDefEqProofs (maxSteps:=800000) (disch:=omega) only[go_sem,undef,vi,w64]
 refine hN _ ?_
 try clear hN N
 refine AW.seq (fun N1 hN1=> ?_)
 refine AW.sr envOk (fun N hN=> ?_)
 simp-dsimp-implicitDefEqProofs (maxSteps:=800000) (disch:=omega) only[go_sem,undef,vi,w64]
 refine hN _ ?_
 try clear hN N
 refine AW.block ?_
 refine AW.loopN (α:=Nat) (fun x=>sl 19 [(0,vi n f),(1,.f 149 []),(7,.i .i64 n),(8,.i .i64 x)]) (fun _=>noH) (fun x m=>x≤n∧ldG f (n-x) x=ldV n f) (fun x=>n-x) (0) ?_ ?_ (fun _ _ h=>h) ?_
 ·exact⟨by omega,rfl⟩
 ·simp(disch:=omega) [wks,wkA,sl,vi]
 ·skip
  rintro k m ⟨hk,hI⟩
  simp-dsimp-implicitDefEqProofs (maxSteps:=800000) (disch:=omega) only[go_sem,undef]
  refine AW.sr envOk (fun N hN=> ?_)
  simp-dsimp-implicitDefEqProofs (maxSteps:=800000) (disch:=omega) only[go_sem,undef,vi,w64]
  refine hN _ ?_
  try clear hN N
  refine AW.seq (fun N2 hN2=> ?_)
  refine AW.cond rfl (fun h1=> ?_) (fun h1=> ?_)
  ·try simp only[cn]at h1
   have hs:ldG f (n-k) k=if f k=0 then ldG f (n-(k+1)) (k+1)else k:=by
    obtain⟨q,hq⟩:∃q,n-k=q+1:=⟨n-k-1,by omega⟩
    rw[hq,ldG,show n-(k+1)=q by omega]
   refine AW.skip ?_
   simp only[thn,blk]
   refine hN2 _ ?_
   try clear hN2 N2
   refine AW.seq (fun N3 hN3=> ?_)
   refine AW.block ?_
   refine AW.sr envOk (fun N hN=> ?_)
   simp-dsimp-implicitDefEqProofs (maxSteps:=800000) (disch:=omega) only[go_sem,undef,vi,w64]
   refine hN _ ?_
   try clear hN N
   refine AW.sr envOk (fun N hN=> ?_)
   simp-dsimp-implicitDefEqProofs (maxSteps:=800000) (disch:=omega) only[go_sem,undef,vi,w64]
   refine AC.pure (.of (impl_pivots_1_v (f k))) ?_
   try simp-dsimp-implicitDefEqProofs (maxSteps:=800000) (disch:=omega) only[go_sem,undef,vi,w64]
   refine hN _ ?_
   try clear hN N
   refine AW.cond rfl (fun h2=> ?_) (fun h2=> ?_)
   ·try simp only[cn]at h2
    refine AW.sr envOk (fun N hN=> ?_)
    simp-dsimp-implicitDefEqProofs (maxSteps:=800000) (disch:=omega) only[go_sem,undef,vi,w64]
    refine hN _ ?_
    try clear hN N
    refine AW.ret ?_
    simp-dsimp-implicitDefEqProofs (maxSteps:=800000) (disch:=omega) only[go_sem,undef]
    rw[←hI,hs,if_neg h2]
   ·try simp only[cn]at h2
    refine AW.skip ?_
    simp only[thn,blk]
    refine hN3 _ ?_
    try clear hN3 N3
    refine AW.regionL envOk ?_
    simp-dsimp-implicitDefEqProofs (maxSteps:=800000) (disch:=omega) only[go_sem,undef,vi,w64]
    refine⟨k+1,?_,fun _ _ h=>h,?_,?_⟩
    ·simp(disch:=omega) [wks,wkA,sl,w64,ints,rows,cubes,vi,w64]<;>omega
    ·exact⟨by omega,by rw[←hI,hs,if_pos h2]⟩
    ·first|omega|(simp only;omega)
  ·try simp only[cn]at h1
   refine AW.exit ?_
   simp only[thn,blk,if_true]
   refine hN1 _ ?_
   try clear hN1 N1
   refine AW.sr envOk (fun N hN=> ?_)
   simp-dsimp-implicitDefEqProofs (maxSteps:=800000) (disch:=omega) only[go_sem,undef,vi,w64]
   refine hN _ ?_
   try clear hN N
   refine AW.ret ?_
   simp-dsimp-implicitDefEqProofs (maxSteps:=800000) (disch:=omega) only[go_sem,undef]
   rw[show n-k=0 by omega,ldG]at hI;omega
def dpv (n:Nat) (us:List V):List Int:=us.map fun b=>(ldV n b:Int)
theorem dpv_snoc {n:Nat} {u:List V} {k:Nat} (h:k<u.length):List.map (fun b=>AV.i .i64 (ldV n b)) (u.take k)++[AV.i .i64 (ldV n (u.getD k z0))]=List.map (fun b=>AV.i .i64 (ldV n b)) (u.take (k+1)):=by
  rw[List.take_add_one,List.map_append]
  congr 1
  simp[h]
theorem impl_pivots_v (n:Nat) (hn:n≤6) (us:List V) (hu:us.length≤1048576) (hl:∀k,k<us.length→ldV n (us.getD k z0)<n):ACp Tryz.prog 124 [vls n us] (ints (dpv n us)):=by
 refine ACp.introV envOk Tryz.func124 rfl (by kernel_rfl) Tryz.ntmps124 Tryz.results124 ((ints_nr _)) (fun nx=> ?_)
 refine AW.sr envOk (fun N hN=> ?_)
 simp-dsimp-implicitDefEqProofs (maxSteps:=800000) (disch:=omega) only[go_sem,undef,vls,vi,w64,Nat.min_eq_left]
 refine hN _ ?_
 try clear hN N
 refine AW.sr envOk (fun N hN=> ?_)
 simp-dsimp-implicitDefEqProofs (maxSteps:=800000) (disch:=omega) only[go_sem,undef,vls,vi,w64,Nat.min_eq_left]
 refine hN _ ?_
 try clear hN N
 refine AW.seq (fun N1 hN1=> ?_)
 refine AW.sr envOk (fun N hN=> ?_)
 simp-dsimp-implicitDefEqProofs (maxSteps:=800000) (disch:=omega) only[go_sem,undef,vls,vi,w64,Nat.min_eq_left]
 refine hN _ ?_
 try clear hN N
 refine AW.block ?_
 refine AW.loopN (α:=Nat×Option Nat) (fun x=>sl 19 [(3,oA x.2 x.1),(6,vls n us),(7,.i .i64 us.length),(8,.i .i64 x.1)]) (fun x=>oH noH x.2 ((us.take x.1).map fun b=>AV.i .i64 (ldV n b))) (fun x m=>(x.1≤us.length∧nx≤m)∧(x.2=none→x.1=0)∧(∀id,x.2=some id→nx≤id∧id<m)) (fun x=>us.length-x.1) ((0,none)) ?_ ?_ (fun _ _ h=>h) ?_
 ·exact⟨⟨by simp,by first|omega|(simp only;omega)|(dsimp only;omega)⟩,fun _=>rfl,by simp⟩
 ·simp[wks,wkA,sl,vls,oA]
 ·skip
  rintro⟨k,_|id⟩ m ⟨⟨hk,hm⟩,h0,hid⟩
  ·skip
   simp-dsimp-implicitDefEqProofs (maxSteps:=800000) (disch:=omega) only[go_sem,undef]
   dsimp only[oA,oH]at hk hm h0 hid ⊢
   have hk0:k=0:=h0 rfl
   refine AW.sr envOk (fun N hN=> ?_)
   simp-dsimp-implicitDefEqProofs (maxSteps:=800000) (disch:=omega) only[go_sem,undef,vls,vi,w64,Nat.min_eq_left]
   refine hN _ ?_
   try clear hN N
   refine AW.seq (fun N2 hN2=> ?_)
   refine AW.cond rfl (fun h1=> ?_) (fun h1=> ?_)
   ·try simp only[cn]at h1
    have hl1:=hl k (by omega)
    refine AW.skip ?_
    simp only[thn,blk]
    refine hN2 _ ?_
    try clear hN2 N2
    refine AW.seq (fun N3 hN3=> ?_)
    refine AW.block ?_
    refine AW.sr envOk (fun N hN=> ?_)
    simp-dsimp-implicitDefEqProofs (maxSteps:=800000) (disch:=omega) only[go_sem,undef,vls,vi,w64,Nat.min_eq_left]
    refine hN _ ?_
    try clear hN N
    refine AW.regionL envOk ?_
    simp-dsimp-implicitDefEqProofs (maxSteps:=800000) (disch:=omega) only[go_sem,undef,vls,vi,w64,Nat.min_eq_left]
    refine AC.pure (.of (slices_IndexFunc_v n (us.getD k z0) (by omega) (by omega))) ?_
    try simp-dsimp-implicitDefEqProofs (maxSteps:=800000) (disch:=omega) only[go_sem,undef,vls,vi,w64,Nat.min_eq_left]
    refine hN3 _ ?_
    try clear hN3 N3
    refine AW.regionL envOk ?_
    simp-dsimp-implicitDefEqProofs (maxSteps:=800000) (disch:=omega) only[go_sem,undef,vls,vi,w64,Nat.min_eq_left]
    refine⟨(k+1,some (m+1+3+4)),?_,by subst hk0;rw[←dpv_snoc (by omega)];intro d cs hd;simp only[oH,upd,noH]at hd ⊢;grind,?_,?_⟩
    ·simp(disch:=omega) [wks,wkA,sl,vls,oA,w64]<;>omega
    ·exact⟨⟨by omega,by first|omega|(simp only;omega)|(dsimp only;omega)⟩,by simp,by simp;omega⟩
    ·first|omega|(simp only;omega)
   ·try simp only[cn]at h1
    refine AW.exit ?_
    simp only[thn,blk,if_true]
    refine hN1 _ ?_
    try clear hN1 N1
    refine AW.sr envOk (fun N hN=> ?_)
    simp-dsimp-implicitDefEqProofs (maxSteps:=800000) (disch:=omega) only[go_sem,undef,vls,vi,w64,Nat.min_eq_left]
    refine hN _ ?_
    try clear hN N
    refine AW.ret ?_
    simp-dsimp-implicitDefEqProofs (maxSteps:=800000) (disch:=omega) only[go_sem,undef]
    have h00:us=[]:=List.length_eq_zero_iff.1 (by omega)
    subst h00
    exact .nl
  ·skip
   simp-dsimp-implicitDefEqProofs (maxSteps:=800000) (disch:=omega) only[go_sem,undef]
   dsimp only[oA,oH]at hk hm h0 hid ⊢
   have hidm:=hid id rfl
   refine AW.sr envOk (fun N hN=> ?_)
   simp-dsimp-implicitDefEqProofs (maxSteps:=800000) (disch:=omega) only[go_sem,undef,vls,vi,w64,Nat.min_eq_left]
   refine hN _ ?_
   try clear hN N
   refine AW.seq (fun N4 hN4=> ?_)
   refine AW.cond rfl (fun h2=> ?_) (fun h2=> ?_)
   ·try simp only[cn]at h2
    have hl1:=hl k (by omega)
    refine AW.skip ?_
    simp only[thn,blk]
    refine hN4 _ ?_
    try clear hN4 N4
    refine AW.seq (fun N5 hN5=> ?_)
    refine AW.block ?_
    refine AW.sr envOk (fun N hN=> ?_)
    simp-dsimp-implicitDefEqProofs (maxSteps:=800000) (disch:=omega) only[go_sem,undef,vls,vi,w64,Nat.min_eq_left]
    refine hN _ ?_
    try clear hN N
    refine AW.regionL envOk ?_
    simp-dsimp-implicitDefEqProofs (maxSteps:=800000) (disch:=omega) only[go_sem,undef,vls,vi,w64,Nat.min_eq_left]
    refine AC.pure (.of (slices_IndexFunc_v n (us.getD k z0) (by omega) (by omega))) ?_
    try simp-dsimp-implicitDefEqProofs (maxSteps:=800000) (disch:=omega) only[go_sem,undef,vls,vi,w64,Nat.min_eq_left]
    refine hN5 _ ?_
    try clear hN5 N5
    refine AW.regionL envOk ?_
    simp-dsimp-implicitDefEqProofs (maxSteps:=800000) (disch:=omega) only[go_sem,undef,vls,vi,w64,Nat.min_eq_left]
    refine⟨(k+1,some (m+1+3+4)),?_,by rw[←dpv_snoc (by omega)];intro d cs hd;simp only[oH,upd,noH]at hd ⊢;grind,?_,?_⟩
    ·simp(disch:=omega) [wks,wkA,sl,vls,oA,w64]<;>omega
    ·exact⟨⟨by omega,by first|omega|(simp only;omega)|(dsimp only;omega)⟩,by simp,by simp;omega⟩
    ·first|omega|(simp only;omega)
   ·try simp only[cn]at h2
    refine AW.exit ?_
    simp only[thn,blk,if_true]
    refine hN1 _ ?_
    try clear hN1 N1
    refine AW.sr envOk (fun N hN=> ?_)
    simp-dsimp-implicitDefEqProofs (maxSteps:=800000) (disch:=omega) only[go_sem,undef,vls,vi,w64,Nat.min_eq_left]
    refine hN _ ?_
    try clear hN N
    refine AW.ret ?_
    simp-dsimp-implicitDefEqProofs (maxSteps:=800000) (disch:=omega) only[go_sem,undef]
    have hk':k=us.length:=by omega
    subst hk'
    have hx:List.map (fun b=>AV.i .i64 (ldV n b)) (us.take us.length)=(dpv n us).map (.i .i64):=by simp[dpv]
    refine vw_ints ?_ (by simp[dpv])
    rw[upd_same,hx]
theorem dpv_len {n:Nat} {us:List V}:(dpv n us).length=us.length:=by simp[dpv]
theorem dpv_get {n:Nat} {us:List V} {k:Nat} (h:k<us.length):(dpv n us).getD k 0=ldV n (us.getD k z0):=by simp[dpv,h]
section
variable (os:List Int) (pw:List (List Int)) (cj:List (List (List Int)))
theorem impl_commutator_ok (h:presOk os pw cj) (hc:Con (pc os pw cj) 0) (z y:V) (hz:T (pc os pw cj) 0 z) (hy:T (pc os pw cj) 0 y):ACp Tryz.prog 111 [prsP os pw cj,vi os.length z,vi os.length y] (vi os.length (cmI (pc os pw cj) z y)):=by
 have hv:=h.val
 have g:=con_grp hv hc
 have h1:=(inv_T g hz).1
 have h2:=(inv_T g hy).1
 refine ACp.intro' envOk Tryz.func111 rfl (by kernel_rfl) Tryz.ntmps111 Tryz.results111 (vi_nr _ _) (fun nx=> ?_)
 refine AW.sr envOk (fun N hN=> ?_)
 simp-dsimp-implicitDefEqProofs (maxSteps:=800000) (disch:=omega) only[go_sem,undef,]
 refine hN _ ?_
 try clear hN N
 refine AW.sr envOk (fun N hN=> ?_)
 simp-dsimp-implicitDefEqProofs (maxSteps:=800000) (disch:=omega) only[go_sem,undef,]
 refine AC.pure (.of ((impl_invert_ok os pw cj h 0 hc z hz).pure)) ?_
 try simp-dsimp-implicitDefEqProofs (maxSteps:=800000) (disch:=omega) only[go_sem,undef,]
 refine AC.pure (.of ((impl_conjugate_ok os pw cj h 0 hc z y hz hy).pure)) ?_
 try simp-dsimp-implicitDefEqProofs (maxSteps:=800000) (disch:=omega) only[go_sem,undef,]
 refine AC.pure (.of ((impl_multiply_ok os pw cj h 0 hc _ _ h1 (g.cl h2 (g.cl hz hy))).pure)) ?_
 try simp-dsimp-implicitDefEqProofs (maxSteps:=800000) (disch:=omega) only[go_sem,undef,]
 refine hN _ ?_
 try clear hN N
 refine AW.ret ?_
 simp-dsimp-implicitDefEqProofs (maxSteps:=800000) (disch:=omega) only[go_sem,undef]
 rfl
end
def tbc (n:Nat):Option V→AV
  |none=> .nl
  |some y=>vi n y
def tbn (n:Nat) (t:Nat→Option V):List AV:=(List.range n).map fun d=>tbc n (t d)
theorem tbn_len {n:Nat} {t:Nat→Option V}:(tbn n t).length=n:=by simp[tbn]
theorem tbn_get {n:Nat} {t:Nat→Option V} {d:Nat} (h:d<n):(tbn n t).getD d .j=tbc n (t d):=by simp[tbn,h]
theorem tbn_nil {n:Nat}:List.replicate n .nl=tbn n (fun _=>none):=by
  apply List.ext_getElem?
  intro i
  by_cases h:i<n<;>simp[tbn,h,tbc]
theorem tbn_set {n d:Nat} {t:Nat→Option V} {y:V} (h:d<n):splice (tbn n t) d [.v n (ivs n y)]=tbn n (oset t d y):=by
  rw[splice_one _ _ _ (by rw[tbn_len];exact h)]
  apply List.ext_getElem?
  intro i
  rw[List.getElem?_set]
  by_cases hi:d=i
  · subst hi;simp[tbn,oset,h,tbc,vi]
  · simp only[hi,if_false,tbn,List.getElem?_map]
    by_cases hn:i<n
    · simp[hn,oset,Ne.symm hi]
    · simp[hn]
def tkf:Option V→Nat
  |none=>0
  |some _=>1
theorem tbc_nil {n:Nat} {o:Option V} (h:tkf o=0):tbc n o= .nl:=by
  cases o with
  |none=>rfl
  |some y=>cases h
theorem tbc_ne {n:Nat} {o:Option V} (h:0<tkf o):tbc n o= .v n (ivs n (o.getD z0)):=by
  cases o with
  |none=>exact absurd h (Nat.lt_irrefl 0)
  |some y=>rfl
theorem tkf_none {o:Option V} (h:o=none):tkf o=0:=by rw[h];rfl
theorem tkf_some {o:Option V} (h:o≠none):0<tkf o∧o=some (o.getD z0):=by
  cases o with
  |none=>exact absurd rfl h
  |some y=>exact⟨Nat.one_pos,rfl⟩
theorem nilB_pos {n:Nat} {t f:Prop} (h:0<n):nilB n t f=f:=propext ⟨fun hh=>hh.f,fun hh=>⟨fun h0=>by omega,hh⟩⟩
theorem ex_sl {t:TypeId} {s b:Nat} {z:Value} {q:Bool}:(∃e el,(⟨.slice t,s,b,z,q⟩:TE)=e∧e.d=TD.slice el)=True:=eq_true ⟨_,_,rfl,rfl⟩
attribute [go_sem] tbn_len tbn_get tbn_set
section
variable {P:Pc} (hv:Val P) (hc:Con P 0)
theorem ld_sp {x:V} (hx:T P 0 x):ldV P.n x≤P.n∧T P (ldV P.n x) x∧(ldV P.n x<P.n→x (ldV P.n x)≠0):=by
  obtain⟨a1,a2,a3,a4⟩:=ldG_sp (x:=x) P.n 0
  unfold ldV
  exact⟨by omega,⟨fun k hk=>a3 k (Nat.zero_le k) hk,fun k _ h2=>hx.r k (Nat.zero_le k) h2,hx.t⟩,fun h=>a4 (by omega)⟩
theorem ld_of {x:V} {d:Nat} (hd:d≤P.n) (hx:T P d x) (h:d<P.n→x d≠0):ldV P.n x=d:=by
  obtain⟨a1,a2,a3,a4⟩:=ldG_sp (x:=x) P.n 0
  unfold ldV
  rcases Nat.lt_trichotomy (ldG x P.n 0) d with q|q|q
  · exact absurd (hx.z _ q) (a4 (by omega))
  · exact q
  · exact absurd (a3 d (Nat.zero_le d) q) (h (by omega))
theorem ld_ge {x:V} {d:Nat} (hd:d≤P.n) (hx:T P d x):d≤ldV P.n x:=by
  obtain⟨a1,a2,a3,a4⟩:=ldG_sp (x:=x) P.n 0
  unfold ldV
  apply Classical.byContradiction
  intro q
  exact absurd (hx.z _ (by omega)) (a4 (by omega))
theorem siS_skip {t:Nat→Option V} {x:V} {d:Nat} (hd:d≤P.n) (hx:T P d x):siS P t x=sft (rdI P) t P.n (P.n-d) x:=by
  have:=sft_skip (rd:=rdI P) (t:=t) (x:=x) (n:=P.n) d (P.n-d) (by omega) (fun j _ h2=>hx.z j (by omega))
  rw[show P.n-d+d=P.n by omega]at this
  exact this
theorem siS_end {t:Nat→Option V} {x:V} (hx:T P 0 x) (h:ldV P.n x=P.n∨t (ldV P.n x)=none):siS P t x=(ldV P.n x,x):=by
  obtain⟨h1,h2,h3⟩:=ld_sp hx
  obtain⟨d,hd⟩:∃d,ldV P.n x=d:=⟨_,rfl⟩
  rw[hd]at h h1 h2 h3 ⊢
  rw[siS_skip h1 h2]
  by_cases e:d=P.n
  · rw[e,Nat.sub_self,sft]
  · obtain⟨f,hf⟩:∃f,P.n-d=f+1:=⟨P.n-d-1,by omega⟩
    have e2:P.n-(f+1)=d:=by omega
    rw[hf,sft_none (by rw[e2];exact h3 (by omega)) (by rw[e2];exact h.resolve_left e),e2]
include hv hc
theorem siS_step {t:Nat→Option V} (hG:tbG P t) {x y:V} (hx:T P 0 x) (hd:ldV P.n x<P.n) (hy:t (ldV P.n x)=some y):
    siS P t (rdI P (ldV P.n x) y x)=siS P t x∧T P (ldV P.n x+1) (rdI P (ldV P.n x) y x):=by
  obtain⟨h1,h2,h3⟩:=ld_sp hx
  obtain⟨d,hd2⟩:∃d,ldV P.n x=d:=⟨_,rfl⟩
  rw[hd2]at hd hy h1 h2 h3 ⊢
  obtain⟨y1,y2,y3⟩:=hG d y hy
  have hT:=(rdI_rk hv hc d y x hd y2 y3 h2).2
  refine⟨?_,hT⟩
  rw[siS_skip (by omega) hT,siS_skip h1 h2]
  have e2:P.n-(P.n-(d+1)+1)=d:=by omega
  have:=sft_some (rd:=rdI P) (t:=t) (n:=P.n) (f:=P.n-(d+1)) (x:=x) (y:=y) (by rw[e2];exact h3 hd) (by rw[e2];exact hy)
  rw[e2]at this
  rw[show P.n-d=P.n-(d+1)+1 by omega,this]
theorem siS_ld {t:Nat→Option V} (hG:tbG P t) {x:V} (hx:T P 0 x):ldV P.n (siS P t x).2=(siS P t x).1:=by
  obtain⟨i1,i2,i3⟩:=siS_sp hv hc hG hx
  exact ld_of i1 i2 (fun h=>(i3 h).2)
end
section
variable (os:List Int) (pw:List (List Int)) (cj:List (List (List Int)))
set_option maxRecDepth 20000 in
set_option maxHeartbeats 1000000 in
theorem impl_sift_ok (h:presOk os pw cj) (hc:Con (pc os pw cj) 0) (t:Nat→Option V) (hG:tbG (pc os pw cj) t) (a:V) (ha:T (pc os pw cj) 0 a) (nx:Nat) (H:HP) (ids id2:Nat) (h1':H ids=some [prsP os pw cj,.h id2 0 os.length]) (h2':H id2=some (tbn os.length t)):AC Tryz.prog 108 nx H [.q ids 0,vi os.length a] (fun _ H' r=>r=vi os.length (siS (pc os pw cj) t a).2∧H'=H):=by
 have hn6:=h.1.1
 have hv:=h.val
 refine AC.introx envOk Tryz.func108 rfl (by kernel_rfl) Tryz.ntmps108 Tryz.results108 (fun hfr=> ?_)
 refine AW.sr envOk (fun N hN=> ?_)
 simp-dsimp-implicitDefEqProofs (maxSteps:=800000) (disch:=omega) only[go_sem,undef,prsP,w64,vi,ints,gd_i,h1',h2',tbc_nil,tbc_ne,nilB_pos,ex_sl,eq_self]
 refine hN _ ?_
 try clear hN N
 refine AW.seq (fun N1 hN1=> ?_)
 refine AW.sr envOk (fun N hN=> ?_)
 simp-dsimp-implicitDefEqProofs (maxSteps:=800000) (disch:=omega) only[go_sem,undef,prsP,w64,vi,ints,gd_i,h1',h2',tbc_nil,tbc_ne,nilB_pos,ex_sl,eq_self]
 refine AC.pure (.of (impl_depthOf_v os.length (by omega) a)) ?_
 try simp-dsimp-implicitDefEqProofs (maxSteps:=800000) (disch:=omega) only[go_sem,undef,prsP,w64,vi,ints,gd_i,h1',h2',tbc_nil,tbc_ne,nilB_pos,ex_sl,eq_self]
 refine hN _ ?_
 try clear hN N
 refine AW.block ?_
 refine AW.loopN (α:=V) (fun x=>sl 96 [(0,.q ids 0),(1,vi os.length x),(5,.i .i64 (ldV os.length x))]) (fun _=>H) (fun x m=>T (pc os pw cj) 0 x∧siS (pc os pw cj) t x=siS (pc os pw cj) t a) (fun x=>os.length-ldV os.length x) (a) ?_ ?_ (fun _ _ h=>h) ?_
 ·exact⟨ha,rfl⟩
 ·simp(disch:=omega) [wks,wkA,sl,vi]
 ·skip
  rintro u m ⟨hu,hI⟩
  dsimp only at hu hI ⊢
  have hul:=ld_sp hu
  obtain⟨d,hd⟩:∃d,ldV os.length u=d:=⟨_,rfl⟩
  have hle:d≤os.length:=by rw[←hd];exact hul.1
  have hst:=fun y=>siS_step hv hc hG (y:=y) hu
  have hen:=siS_end (t:=t) hu
  have hlast:=hul.2.2
  have hn0:(pc os pw cj).n=os.length:=rfl
  rw[hn0,hd]at hst hen hlast
  rw[hd]
  by_cases hb:t d=none
  ·skip
   have hb0:=tkf_none hb
   simp only[vi]
   simp-dsimp-implicitDefEqProofs (maxSteps:=800000) (disch:=omega) only[go_sem,undef]
   refine AW.seq (fun N2 hN2=> ?_)
   refine AW.sr envOk (fun N hN=> ?_)
   simp-dsimp-implicitDefEqProofs (maxSteps:=800000) (disch:=omega) only[go_sem,undef,prsP,w64,vi,ints,gd_i,h1',h2',tbc_nil,tbc_ne,nilB_pos,ex_sl,eq_self]
   refine gopB.mk' (fun h1=> ?_) (fun h1=> ?_)
   ·try simp only[cn]at h1
    try simp-dsimp-implicitDefEqProofs (maxSteps:=800000) (disch:=omega) only[go_sem,undef,prsP,w64,vi,ints,gd_i,h1',h2',tbc_nil,tbc_ne,nilB_pos,ex_sl,eq_self]
    refine hN _ ?_
    try clear hN N
    refine AW.cond rfl (fun h2=> ?_) (fun h2=> ?_)
    ·try simp only[cn]at h2
     first|done|(cases h2)|(simp at h2)
    ·try simp only[cn]at h2
     refine AW.exit ?_
     simp only[thn,blk,if_true]
     refine hN1 _ ?_
     try clear hN1 N1
     refine AW.sr envOk (fun N hN=> ?_)
     simp-dsimp-implicitDefEqProofs (maxSteps:=800000) (disch:=omega) only[go_sem,undef,prsP,w64,vi,ints,gd_i,h1',h2',tbc_nil,tbc_ne,nilB_pos,ex_sl,eq_self]
     refine hN _ ?_
     try clear hN N
     refine AW.ret ?_
     simp-dsimp-implicitDefEqProofs (maxSteps:=800000) (disch:=omega) only[go_sem,undef]
     exact⟨_,fun _ _ h=>h,by rw[←hI,hen (.inr hb)];rfl,rfl⟩
   ·try simp only[cn]at h1
    try simp-dsimp-implicitDefEqProofs (maxSteps:=800000) (disch:=omega) only[go_sem,undef,prsP,w64,vi,ints,gd_i,h1',h2',tbc_nil,tbc_ne,nilB_pos,ex_sl,eq_self]
    refine hN _ ?_
    try clear hN N
    refine AW.condF rfl ?_
    refine AW.exit ?_
    simp only[thn,blk,if_true]
    refine hN1 _ ?_
    try clear hN1 N1
    refine AW.sr envOk (fun N hN=> ?_)
    simp-dsimp-implicitDefEqProofs (maxSteps:=800000) (disch:=omega) only[go_sem,undef,prsP,w64,vi,ints,gd_i,h1',h2',tbc_nil,tbc_ne,nilB_pos,ex_sl,eq_self]
    refine hN _ ?_
    try clear hN N
    refine AW.ret ?_
    simp-dsimp-implicitDefEqProofs (maxSteps:=800000) (disch:=omega) only[go_sem,undef]
    exact⟨_,fun _ _ h=>h,by rw[←hI,hen (.inr hb)];rfl,rfl⟩
  ·skip
   obtain⟨hb0,hy⟩:=tkf_some hb
   obtain⟨y,hyy⟩:∃y,(t d).getD z0=y:=⟨_,rfl⟩
   rw[hyy]at hy
   simp only[vi]
   simp-dsimp-implicitDefEqProofs (maxSteps:=800000) (disch:=omega) only[go_sem,undef]
   refine AW.seq (fun N3 hN3=> ?_)
   refine AW.sr envOk (fun N hN=> ?_)
   simp-dsimp-implicitDefEqProofs (maxSteps:=800000) (disch:=omega) only[go_sem,undef,prsP,w64,vi,ints,gd_i,h1',h2',tbc_nil,tbc_ne,nilB_pos,ex_sl,eq_self]
   refine gopB.mk' (fun h3=> ?_) (fun h3=> ?_)
   ·try simp only[cn]at h3
    try simp-dsimp-implicitDefEqProofs (maxSteps:=800000) (disch:=omega) only[go_sem,undef,prsP,w64,vi,ints,gd_i,h1',h2',tbc_nil,tbc_ne,nilB_pos,ex_sl,eq_self]
    refine hN _ ?_
    try clear hN N
    refine AW.cond rfl (fun h4=> ?_) (fun h4=> ?_)
    ·try simp only[cn]at h4
     obtain⟨s1,s2⟩:=hst y (by omega) hy
     have hyT:=(hG d y hy).2.1.mono hv (Nat.zero_le d)
     have hur:=hu.r d (Nat.zero_le d) (show d<os.length by omega)
     have huo:=pr4_bd (h.2.1 d (by omega))
     have hoe:(pc os pw cj).o d=os.getD d 0:=rfl
     have hz:rdI (pc os pw cj) d y u d=0:=s2.z d (by omega)
     have hsT:=s2.mono hv (Nat.zero_le _)
     have hsl:=ld_ge (P:=pc os pw cj) (show d+1≤os.length by omega) s2
     rw[hn0]at hsl
     refine AW.skip ?_
     simp only[thn,blk]
     refine hN3 _ ?_
     try clear hN3 N3
     refine AW.seq (fun N4 hN4=> ?_)
     refine AW.block ?_
     refine AW.seq (fun N hN=> ?_)
     refine AW.drawL envOk (by kernel_rfl) 34 (by kernel_rfl) ?_
     simp-dsimp-implicitDefEqProofs (maxSteps:=800000) (disch:=omega) only[hr_nil,hr_one,hr_if,List.take_succ_cons,List.take_zero,List.drop_succ_cons,List.drop_zero,List.take_nil,List.drop_nil,go_sem,undef,prsP,w64,vi,ints,gd_i,h1',h2',tbc_nil,tbc_ne,nilB_pos,ex_sl,eq_self,hyy]
     refine⟨_,.of (impl_power_i h 0 hc y hyT (os.getD d 0-u d) (by omega) (by omega)),?_⟩
     try simp-dsimp-implicitDefEqProofs (maxSteps:=800000) (disch:=omega) only[go_sem,undef,prsP,w64,vi,ints,gd_i,h1',h2',tbc_nil,tbc_ne,nilB_pos,ex_sl,eq_self]
     refine⟨_,.of ((impl_multiply_ok os pw cj h 0 hc (rep (M (pc os pw cj) 0) y (os.getD d 0-u d).toNat) u ((con_grp hv hc).rep hyT _) hu).pure),?_⟩
     try simp-dsimp-implicitDefEqProofs (maxSteps:=800000) (disch:=omega) only[go_sem,undef,prsP,w64,vi,ints,gd_i,h1',h2',tbc_nil,tbc_ne,nilB_pos,ex_sl,eq_self]
     rw[show M (pc os pw cj) 0 (rep (M (pc os pw cj) 0) y (os.getD d 0-u d).toNat) u=rdI (pc os pw cj) d y u from rfl]
     try simp-dsimp-implicitDefEqProofs (maxSteps:=800000) (disch:=omega) only[go_sem,undef,prsP,w64,vi,ints,gd_i,h1',h2']
     refine hN _ ?_
     try clear hN N
     refine AW.sr envOk (fun N hN=> ?_)
     simp-dsimp-implicitDefEqProofs (maxSteps:=800000) (disch:=omega) only[go_sem,undef,prsP,w64,vi,ints,gd_i,h1',h2',tbc_nil,tbc_ne,nilB_pos,ex_sl,eq_self]
     refine hN _ ?_
     try clear hN N
     refine AW.cond rfl (fun h5=> ?_) (fun h5=> ?_)
     ·try simp only[cn]at h5
      exact absurd hz h5
     ·try simp only[cn]at h5
      refine AW.skip ?_
      simp only[thn,blk]
      refine hN4 _ ?_
      try clear hN4 N4
      refine AW.regionL envOk ?_
      simp-dsimp-implicitDefEqProofs (maxSteps:=800000) (disch:=omega) only[go_sem,undef,prsP,w64,vi,ints,gd_i,h1',h2',tbc_nil,tbc_ne,nilB_pos,ex_sl,eq_self]
      refine AC.pure (.of (impl_depthOf_v os.length (by omega) (rdI (pc os pw cj) d y u))) ?_
      try simp-dsimp-implicitDefEqProofs (maxSteps:=800000) (disch:=omega) only[go_sem,undef,prsP,w64,vi,ints,gd_i,h1',h2',tbc_nil,tbc_ne,nilB_pos,ex_sl,eq_self]
      refine⟨rdI (pc os pw cj) d y u,?_,fun _ _ h=>h,?_,?_⟩
      ·simp(disch:=omega) [wks,wkA,sl,w64,ints,rows,cubes,prsP,w64,vi,ints,gd_i,h1',h2',tbc_nil,tbc_ne,nilB_pos,ex_sl,eq_self]<;>omega
      ·exact⟨hsT,s1.trans hI⟩
      ·first|omega|(simp only;omega)|(dsimp only;omega)
    ·try simp only[cn]at h4
     first|done|(cases h4)|(exact absurd h4 (by simp))
   ·try simp only[cn]at h3
    try simp-dsimp-implicitDefEqProofs (maxSteps:=800000) (disch:=omega) only[go_sem,undef,prsP,w64,vi,ints,gd_i,h1',h2',tbc_nil,tbc_ne,nilB_pos,ex_sl,eq_self]
    refine hN _ ?_
    try clear hN N
    refine AW.condF rfl ?_
    refine AW.exit ?_
    simp only[thn,blk,if_true]
    refine hN1 _ ?_
    try clear hN1 N1
    refine AW.sr envOk (fun N hN=> ?_)
    simp-dsimp-implicitDefEqProofs (maxSteps:=800000) (disch:=omega) only[go_sem,undef,prsP,w64,vi,ints,gd_i,h1',h2',tbc_nil,tbc_ne,nilB_pos,ex_sl,eq_self]
    refine hN _ ?_
    try clear hN N
    refine AW.ret ?_
    simp-dsimp-implicitDefEqProofs (maxSteps:=800000) (disch:=omega) only[go_sem,undef]
    exact⟨_,fun _ _ h=>h,by rw[←hI,hen (.inl (by omega))];rfl,rfl⟩
end
end Go.Proofs.YtnlfbimjcabgiaaGreat
