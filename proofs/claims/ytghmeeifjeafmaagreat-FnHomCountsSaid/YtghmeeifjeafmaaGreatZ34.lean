import Derived.Test.YtghmeeifjeafmaaGreatZ31
import Derived.Test.YtghmeeifjeafmaaGreatZ33
set_option linter.unusedVariables false
set_option linter.unusedSimpArgs false
namespace Go.Proofs.YtghmeeifjeafmaaGreat
open Nat (reduceAdd reduceSub reduceGT reduceEqDiff reduceMul)
theorem Fz.tr {n:Nat} {H H':HP} {a t:AV} (h:Fz H (blw n H) a t) (hk:∀i,n≤i→H' i=H i):Fz H' (blw n H') a t:=by
  have key:∀id (cs:List AV),H id=some cs→blw n H id=none→H' id=some cs∧blw n H' id=none:=fun id cs h1 h2=>by
    have hid:n≤id:=by
      apply Classical.byContradiction
      intro hn
      rw[blw_lt (by omega),h1]at h2;cases h2
    exact⟨(hk id hid).trans h1,blw_ge hid⟩
  induction h with
  |j a=>exact .j a
  |refl a=>exact .refl a
  |nl=>exact .nl
  |h id o m cs ts h1 h0 h2 h3 h4 ih=>exact .h id o m cs ts (key id cs h1 h0).1 (key id cs h1 h0).2 h2 h3 ih
  |hs s id o m cs ts h1 h0 h2 h3 h4 ih=>exact .hs s id o m cs ts (key id cs h1 h0).1 (key id cs h1 h0).2 h2 h3 ih
  |q id o cs ts h1 h0 h3 h4 ih=>exact .q id o cs ts (key id cs h1 h0).1 (key id cs h1 h0).2 h3 ih
  |g cs ts h3 h4 ih=>exact .g cs ts h3 ih
  |t cs ts h3 h4 ih=>exact .t cs ts h3 ih
  |v m cs ts h3 h4 ih=>exact .v m cs ts h3 ih
  |f m cs ts h3 h4 ih=>exact .f m cs ts h3 ih
def zK (nx:Nat) (H:HP) (Q:AV→Prop):Nat→HP→AV→Prop:=fun _ H' r=>Q r∧∀i,i<nx→H' i=H i
theorem AC.zz {P:Program} {f:FuncId} {xs:List AV} {Q:AV→Prop} {nx:Nat} (h:AC P f nx noH xs (fun nx' H' r=>∃r2,Fz H' (blw nx H') r r2∧Q r2)) (H:HP):AC P f nx H xs (zK nx H Q):=
  (AC.frame (H:=H) h).frz fun nx' H' r ⟨H0,⟨r2,g1,g2⟩,hlow,hhigh⟩=>⟨blw nx H',r2,FzH.blw,g1.tr hhigh,g2,fun i hi=>(blw_lt hi).trans (hlow i hi)⟩
theorem Fz.t2 {H H':HP} {a b z:AV} (h:Fz H H' a b):Fz H H' (.t [a,z]) (.t [b,z]):= .t _ _ rfl fun k x y hx hy=>by
  match k,hx,hy with
  |0,hx,hy=>cases hx;cases hy;exact h
  |1,hx,hy=>cases hx;cases hy;exact .refl _
theorem LC.fzI {n:Nat} {H:HP} {a b:Nat} {L:AV} {xs:List Int} (h:LC H a b L (xs.map (.i .i64))) (hn:n≤a):Fz H (blw n H) L (ints xs):=by
  have:=h.fz hn (ts:=xs.map (.i .i64)) rfl fun k x y g1 g2=>by rw[g1]at g2;cases g2;exact .refl _
  simpa[ints]using this
theorem LC.fzR {n:Nat} {H:HP} {a b:Nat} {L:AV} {xs:List (List Int)} (h:LC H a b L (xs.map ints)) (hn:n≤a):Fz H (blw n H) L (rows xs):=by
  rw[rows_v]
  exact h.fz hn rfl fun k x y g1 g2=>by rw[g1]at g2;cases g2;exact .refl _
theorem app_all {α:Type} {p:α→Prop} {X:List α} {x:α} (h:∀z∈X,p z) (hx:p x):∀z∈X++[x],p z:=fun z hz=>by
  rcases List.mem_append.1 hz with h1|h1
  · exact h z h1
  rw[List.mem_singleton.1 h1];exact hx
theorem set_all {α:Type} {p:α→Prop} {X:List α} {k:Nat} {x:α} (h:∀z∈X,p z) (hx:p x):∀z∈X.set k x,p z:=fun z hz=>by
  rcases List.mem_or_eq_of_mem_set hz with h1|h1
  · exact h z h1
  rw[h1];exact hx
theorem Fz.blk' {n a id:Nat} {H:HP} {f:Nat→Int} (h:H id=some (ivs n f)) (ha:a≤id):Fz H (blw a H) (.h id 0 n) (ints (vec n f)):=by
  have:=LC.fzI (H:=H) (L:= .h id 0 n) (n:=a) (a:=id) (b:=id+1) (xs:=vec n f) (.inr ⟨id,by rw[List.length_map,vec_len],by rw[vec_map];exact h,Nat.le_refl _,Nat.lt_succ_self _⟩) ha
  exact this
def facQ (n:Int) (r:AV):Prop:=∃fs b,r= .t [ints fs,.b b]∧(2:Int)^fs.length≤n∧∀x∈fs,2≤x∧x≤7
theorem pow_step {k:Nat} {a q d n:Int} (h:(2:Int)^k*a≤n) (hd:2≤d) (hq:0≤q) (e:d*q≤a):(2:Int)^(k+1)*q≤n:=by
  have h1:(0:Int)≤2^k:=Int.pow_nonneg (by omega)
  have h2:2*q≤d*q:=Int.mul_le_mul_of_nonneg_right hd hq
  have h3:(2:Int)^k*(2*q)≤2^k*a:=Int.mul_le_mul_of_nonneg_left (by omega) h1
  rw[Int.pow_succ,Int.mul_assoc];omega
theorem fac_div {a d:Int} (ha:1≤a) (hd:2≤d) (hm:a.tmod d=0):1≤a.tdiv d∧a.tdiv d<a∧d*a.tdiv d≤a:=by
  have h:=Int.tmod_add_tdiv_mul a d
  rw[hm]at h
  have h2:a.tdiv d*d=a:=by omega
  have h1:1≤a.tdiv d:=by
    apply Classical.byContradiction
    intro hn
    have:a.tdiv d*d≤0:=Int.mul_nonpos_of_nonpos_of_nonneg (by omega) (by omega)
    omega
  have h3:a.tdiv d*2≤a.tdiv d*d:=Int.mul_le_mul_of_nonneg_left hd (by omega)
  refine⟨h1,by omega,by rw[Int.mul_comm];omega⟩
theorem pow_one {k:Nat} {a n:Int} (h:(2:Int)^k*a≤n) (ha:1≤a):(2:Int)^k≤n:=by
  have h1:(0:Int)≤2^k:=Int.pow_nonneg (by omega)
  have h2:(2:Int)^k*1≤2^k*a:=Int.mul_le_mul_of_nonneg_left ha h1
  omega
theorem pow_len {k:Nat} {n:Int} (h:(2:Int)^k≤n) (hn:n≤729):k≤9∧(n≤64→k≤6):=by
  have key:∀j,(2:Int)^j*(2:Int)^(k-j)=2^k∨k<j:=fun j=>by
    by_cases hj:j≤k
    · left;rw[←Int.pow_add];congr 1;omega
    right;omega
  have pos:∀j,(1:Int)≤2^j:=fun j=>by
    induction j with
    |zero=>decide
    |succ j ih=>rw[Int.pow_succ];omega
  refine⟨?_,fun h64=>?_⟩
  · rcases key 10 with e|e
    · have:=pos (k-10);rw[show(2:Int)^10=1024 from rfl]at e;omega
    omega
  rcases key 7 with e|e
  · have:=pos (k-7);rw[show(2:Int)^7=128 from rfl]at e;omega
  omega
set_option maxHeartbeats 2000000 in theorem spec_l07Factors_o (n:Int) (h0:1≤n) (h1:n≤729):∀nx,AC Tryz.prog 154 nx noH [.i .i64 n] (fun nx' H' r=>∃r2,Fz H' (blw nx H') r r2∧facQ n r2):=by
 intro nx
 refine AC.intro' envOk Tryz.func154 rfl (by kernel_rfl) Tryz.ntmps154 Tryz.results154 (fun cX=>?_)
 refine AW.sr envOk (fun N hN=>?_);simp-dsimp-implicitDefEqProofs (disch:=omega)only[go_sem];refine hN _ ?_;try clear hN N
 refine AW.sr envOk (fun N hN=>?_);simp-dsimp-implicitDefEqProofs (disch:=omega)only[go_sem];refine hN _ ?_;try clear hN N
 refine AW.seq (fun N1 hN1=>?_);refine AW.sr envOk (fun N hN=>?_);simp-dsimp-implicitDefEqProofs (disch:=omega)only[go_sem];refine hN _ ?_;try clear hN N
 refine AW.block ?_;refine AW.loopN (α:=Nat×HP×AV×List Int×Int) (fun x=>sl 29 [(0,.i .i64 x.2.2.2.2),(4,x.2.2.1),(5,.i .i64 ((x.1:Int)+2))]) (fun x=>x.2.1) (fun x m=>(x.1≤6∧nx+3≤m)∧LC x.2.1 nx m x.2.2.1 (x.2.2.2.1.map (.i .i64))∧(1≤x.2.2.2.2∧x.2.2.2.2≤729∧(2:Int)^x.2.2.2.1.length*x.2.2.2.2≤n)∧x.2.2.2.1.length≤1000∧∀z∈x.2.2.2.1,2≤z∧z≤7) (fun x=>6-x.1) ((0,upd noH (nx+2) (some []),.h (nx+2) 0 0,[],n)) ?_ ?_ (fun _ _ h=>h) ?_
 ·exact⟨⟨by simp,by first|omega|(simp only;omega)|(dsimp only;omega)⟩,LC.mk (upd_same _ _ _) rfl (by omega) (by first|omega|(simp only;omega)|(dsimp only;omega)),by simp;omega,by simp,by simp⟩
 ·simp(disch:=omega) [wks,wkA,sl]
 skip
 rintro⟨k,G,L,fs,a⟩ m ⟨⟨hk,hm⟩,hL,⟨ha,ha7,hp⟩,hfl,hfs⟩
 simp-dsimp-implicitDefEqProofs (disch:=omega)only[go_sem];dsimp only at hk hm hL ha ha7 hp hfl hfs ⊢
 refine AW.seq (fun N2 hN2=>?_);refine AW.sr envOk (fun N hN=>?_);simp-dsimp-implicitDefEqProofs (disch:=omega)only[go_sem];refine hN _ ?_;try clear hN N
 refine AW.cond rfl (fun h1=>?_) (fun h1=>?_)
 ·try simp only[cn]at h1
  refine AW.skip ?_;simp only[thn,blk];refine hN2 _ ?_;try clear hN2 N2
  refine AW.seq (fun N3 hN3=>?_);refine AW.block ?_;refine AW.block ?_;refine AW.loopN (α:=HP×AV×List Int×Int) (fun x=>sl 29 [(0,.i .i64 x.2.2.2),(4,x.2.1),(5,.i .i64 ((k:Int)+2))]) (fun x=>x.1) (fun x m=>nx+3≤m∧LC x.1 nx m x.2.1 (x.2.2.1.map (.i .i64))∧(1≤x.2.2.2∧x.2.2.2≤729∧(2:Int)^x.2.2.1.length*x.2.2.2≤n)∧x.2.2.1.length≤1000∧∀z∈x.2.2.1,2≤z∧z≤7) (fun x=>x.2.2.2.toNat) ((G,L,fs,a)) ?_ ?_ (fun _ _ h=>h) ?_
  ·exact⟨by first|omega|(simp only;omega)|(dsimp only;omega),hL.wide (by omega) (by first|omega|(simp only;omega)|(dsimp only;omega)),⟨ha,ha7,hp⟩,hfl,hfs⟩
  ·simp(disch:=omega) [wks,wkA,sl]
  skip
  rintro⟨G,L,fs,a⟩ m ⟨hm,hL,⟨ha,ha7,hp⟩,hfl,hfs⟩
  simp-dsimp-implicitDefEqProofs (disch:=omega)only[go_sem];dsimp only at hm hL ha ha7 hp hfl hfs ⊢
  have hLo:=hL.one
  have hLl:=hL.len
  refine AW.seq (fun N4 hN4=>?_);refine AW.sr envOk (fun N hN=>?_);simp-dsimp-implicitDefEqProofs (disch:=omega)only[go_sem];refine AC.pure (.of (spec_l01Prime_ok ((k:Int)+2))) ?_
  try simp-dsimp-implicitDefEqProofs (disch:=omega)only[go_sem]
  refine gopB.mk' (fun h2=>?_) (fun h2=>?_)
  ·try simp only[cn]at h2
   try simp-dsimp-implicitDefEqProofs (disch:=omega)only[go_sem]
   refine hN _ ?_;try clear hN N
   refine AW.cond rfl (fun h3=>?_) (fun h3=>?_)
   ·try simp only[cn]at h3
    have hd:=fac_div (d:=(k:Int)+2) ha (by omega) h3
    refine AW.skip ?_;simp only[thn,blk];refine hN4 _ ?_;try clear hN4 N4
    refine AW.block ?_;refine AW.sr envOk (fun N hN=>?_);simp-dsimp-implicitDefEqProofs (disch:=(first|omega|((repeat refine LC.upd (by omega) ?_);assumption))) only[go_sem,hLo,hLl,apst_LC (a:=nx) (b:=m) (L:=L) (cs:=fs.map (.i .i64))]
    refine hN _ ?_;try clear hN N
    refine AW.nameH (fun G3 hG3=>?_);dsimp only at hG3
    refine AW.regionL envOk ?_;simp-dsimp-implicitDefEqProofs (disch:=omega)only[go_sem];refine⟨(G3,.h (m+8+3) 0 (fs.length+1),fs++[(k:Int)+2],a.tdiv ((k:Int)+2)),?_,fun _ _ h=>h,?_,?_⟩
    ·simp(disch:=omega) [wks,wkA,sl,w64]
    ·have hmk:LC G3 nx (m+8+5+4) (.h (m+8+3) 0 (fs.length+1)) ((fs++[(k:Int)+2]).map (.i .i64)):=LC.mk (by rw[←hG3,List.map_append];simp(disch:=omega)only[upd_ne,upd_same];rfl) (by simp) (by omega) (by omega)
     have hps:=pow_step hp (show 2≤(k:Int)+2 by omega) (by omega) hd.2.2
     have hfs2:∀z∈fs++[(k:Int)+2],2≤z∧z≤7:=app_all hfs (by omega)
     have hl2:(fs++[(k:Int)+2]).length≤1000:=by rw[List.length_append,List.length_singleton];have:=(pow_len (pow_one hp ha) (by omega)).1;omega
     have hp2:(2:Int)^(fs++[(k:Int)+2]).length*a.tdiv ((k:Int)+2)≤n:=by rw[List.length_append];exact hps
     first|exact⟨by first|omega|(simp only;omega)|(dsimp only;omega),hmk,⟨by first|omega|(simp only;omega)|(dsimp only;omega),by first|omega|(simp only;omega)|(dsimp only;omega),hp2⟩,hl2,hfs2⟩|exact⟨hmk,⟨by first|omega|(simp only;omega)|(dsimp only;omega),by first|omega|(simp only;omega)|(dsimp only;omega),hp2⟩,hl2,hfs2⟩
    first|omega|(simp only;omega)
   try simp only[cn]at h3
   refine AW.exit ?_;simp only[thn,blk,if_true];refine hN3 _ ?_;try clear hN3 N3
   refine AW.regionL envOk ?_;simp-dsimp-implicitDefEqProofs (disch:=omega)only[go_sem];refine⟨(k+1,G,L,fs,a),?_,fun _ _ h=>h,?_,?_⟩
   ·simp(disch:=omega) [wks,wkA,sl,w64]<;>omega
   ·exact⟨⟨by first|omega|(simp only;omega)|(dsimp only;omega),by first|omega|(simp only;omega)|(dsimp only;omega)⟩,hL.wide (by omega) (by first|omega|(simp only;omega)|(dsimp only;omega)),⟨ha,ha7,hp⟩,hfl,hfs⟩
   first|omega|(simp only;omega)
  try simp only[cn]at h2
  try simp-dsimp-implicitDefEqProofs (disch:=omega)only[go_sem]
  refine hN _ ?_;try clear hN N
  refine AW.condF rfl ?_;refine AW.exit ?_;simp only[thn,blk,if_true];refine hN3 _ ?_;try clear hN3 N3
  refine AW.regionL envOk ?_;simp-dsimp-implicitDefEqProofs (disch:=omega)only[go_sem];refine⟨(k+1,G,L,fs,a),?_,fun _ _ h=>h,?_,?_⟩
  ·simp(disch:=omega) [wks,wkA,sl,w64]<;>omega
  ·exact⟨⟨by first|omega|(simp only;omega)|(dsimp only;omega),by first|omega|(simp only;omega)|(dsimp only;omega)⟩,hL.wide (by omega) (by first|omega|(simp only;omega)|(dsimp only;omega)),⟨ha,ha7,hp⟩,hfl,hfs⟩
  first|omega|(simp only;omega)
 try simp only[cn]at h1
 refine AW.exit ?_;simp only[thn,blk,if_true];refine hN1 _ ?_;try clear hN1 N1
 refine AW.sr envOk (fun N hN=>?_);simp-dsimp-implicitDefEqProofs (disch:=omega)only[go_sem];refine hN _ ?_;try clear hN N
 refine AW.ret ?_;simp-dsimp-implicitDefEqProofs (disch:=omega)only[go_sem];exact⟨_,Fz.t2 (hL.fzI (Nat.le_refl _)),fs,_,rfl,pow_one hp ha,hfs⟩
theorem spec_l07Factors_z (n:Int) (h0:1≤n) (h1:n≤729) (nx:Nat) (H:HP):AC Tryz.prog 154 nx H [.i .i64 n] (zK nx H (facQ n)):=AC.zz (spec_l07Factors_o n h0 h1 nx) H
def shL (b:Nat) (v:List Int) (e:Nat):List Int:=List.replicate b 0++v++List.replicate e 0
theorem shL_len (b:Nat) (v:List Int) (e:Nat):(shL b v e).length=b+v.length+e:=by simp[shL];omega
theorem sh_cells (b:Nat) (v:List Int) (e:Nat):List.take (b+v.length) (List.take b (List.replicate b (AV.i .i64 0))++List.map (AV.i .i64) v)++List.replicate e (AV.i .i64 0)=(shL b v e).map (.i .i64):=by
  rw[List.take_of_length_le (by simp),List.take_of_length_le (by simp)];simp[shL]
theorem spec_l07Shift_o (b:Nat) (v:List Int) (e:Nat) (hb:b≤1000) (hv:v.length≤1000) (he:e≤1000):ACo Tryz.prog 148 [.i .i64 b,ints v,.i .i64 e] (ints (shL b v e)):=by
 intro nx
 refine AC.intro' envOk Tryz.func148 rfl (by kernel_rfl) Tryz.ntmps148 Tryz.results148 (fun cX=>?_)
 refine AW.sr envOk (fun N hN=>?_);simp-dsimp-implicitDefEqProofs (disch:=omega)only[go_sem,ints];refine hN _ ?_;try clear hN N
 refine AW.sr envOk (fun N hN=>?_);simp-dsimp-implicitDefEqProofs (disch:=omega)only[go_sem,ints];refine hN _ ?_;try clear hN N
 refine AW.sr envOk (fun N hN=>?_);simp-dsimp-implicitDefEqProofs (disch:=omega)only[go_sem,ints];refine hN _ ?_;try clear hN N
 refine AW.ret ?_;simp-dsimp-implicitDefEqProofs (disch:=omega)only[go_sem];rw[sh_cells]
 exact⟨_,Own.ints (upd_same _ _ _) (by rw[shL_len]) (by omega) (by omega)⟩
def xq (os:List Int) (k:Nat) (x:Int):Nat→Int
  |0=>x
  |d+1=>(xq os k x d).tdiv (os.getD (k+d) 0)
def dgF (os:List Int) (k:Nat) (x:Int) (i:Nat):Int:=if i<k then 0 else (xq os k x (i-k)).tmod (os.getD i 0)
def dgV (os:List Int) (k:Nat) (x:Int):List Int:=vec os.length (dgF os k x)
theorem dgV_len (os:List Int) (k:Nat) (x:Int):(dgV os k x).length=os.length:=by simp[dgV,vec]
theorem xq_bd {os:List Int} {k:Nat} {x:Int} (ho:∀i,i<os.length→2≤os.getD i 0∧os.getD i 0≤1000) (hx:0≤x∧x≤1000000):∀d,k+d≤os.length→0≤xq os k x d∧xq os k x d≤1000000:=by
  intro d
  induction d with
  |zero=>intro _;exact hx
  | succ d ih=>
    intro hd
    have h1:=ih (by omega)
    have h2:=ho (k+d) (by omega)
    rw[xq,Int.tdiv_eq_ediv_of_nonneg h1.1]
    refine⟨Int.ediv_nonneg h1.1 (by omega),?_⟩
    have:=Int.ediv_le_self (os.getD (k+d) 0) h1.1
    omega
theorem spec_l07Digits_o (os:List Int) (k:Nat) (x0:Int) (hn:os.length≤1000) (hk:k≤os.length) (ho:∀i,i<os.length→2≤os.getD i 0∧os.getD i 0≤1000) (hx:0≤x0∧x0≤1000000):ACo Tryz.prog 155 [ints os,.i .i64 k,.i .i64 x0] (ints (dgV os k x0)):=by
 intro nx
 refine AC.intro' envOk Tryz.func155 rfl (by kernel_rfl) Tryz.ntmps155 Tryz.results155 (fun cX=>?_)
 refine AW.sr envOk (fun N hN=>?_);simp-dsimp-implicitDefEqProofs (disch:=omega)only[go_sem,ints,gd_i];refine hN _ ?_;try clear hN N
 refine AW.sr envOk (fun N hN=>?_);simp-dsimp-implicitDefEqProofs (disch:=omega)only[go_sem,ints,gd_i];refine hN _ ?_;try clear hN N
 refine AW.seq (fun N1 hN1=>?_);refine AW.sr envOk (fun N hN=>?_);simp-dsimp-implicitDefEqProofs (disch:=omega)only[go_sem,ints,gd_i];refine hN _ ?_;try clear hN N
 refine AW.block ?_;refine AW.loopN (α:=Nat×Int×(Nat→Int)) (fun x=>sl 35 [(0,ints os),(2,.i .i64 x.2.1),(7,.h (nx+1+2) 0 os.length),(8,.i .i64 ((k+x.1:Nat):Int))]) (fun x=>upd noH (nx+1+2) (some (ivs os.length x.2.2))) (fun x m=>(k+x.1≤os.length∧nx+4≤m)∧x.2.1=xq os k x0 x.1∧∀i,i<os.length→x.2.2 i=if i<k+x.1 then dgF os k x0 i else 0) (fun x=>os.length-(k+x.1)) ((0,x0,fun _=>0)) ?_ ?_ (by rw[ivs_zero];exact Le.refl _) ?_
 ·exact⟨⟨by simp;omega,by first|omega|(simp only;omega)|(dsimp only;omega)⟩,rfl,fun i hi=>by dsimp only;unfold dgF;split<;>(try (rw[if_pos (by omega)]))<;>rfl⟩
 ·simp(disch:=omega) [wks,wkA,sl,w64,ints,rows,cubes,w64,ints,gd_i]<;>omega
 skip
 rintro⟨d,y,f⟩ m ⟨⟨hd,hm⟩,hy,hf⟩
 simp-dsimp-implicitDefEqProofs (disch:=omega)only[go_sem];dsimp only at hd hm hy hf ⊢
 have hyb:=xq_bd (k:=k) (fun i hi=>ho i hi) hx d hd
 rw[←hy]at hyb
 refine AW.seq (fun N2 hN2=>?_);refine AW.sr envOk (fun N hN=>?_);simp-dsimp-implicitDefEqProofs (disch:=omega)only[go_sem,ints,gd_i];refine hN _ ?_;try clear hN N
 refine AW.cond rfl (fun h1=>?_) (fun h1=>?_)
 ·try simp only[cn]at h1
  have hz:¬os.getD (k+d) 0=0:=by have:=ho (k+d) (by omega);omega
  have hyw:IntKind.i64.wrap (y.tdiv (os.getD (k+d) 0))=y.tdiv (os.getD (k+d) 0):=by
   have h2:=xq_bd (k:=k) (fun i hi=>ho i hi) hx (d+1) (by omega)
   rw[xq,←hy]at h2
   exact w64 (by omega) (by omega)
  refine AW.skip ?_;simp only[thn,blk];refine hN2 _ ?_;try clear hN2 N2
  refine AW.seq (fun N3 hN3=>?_);refine AW.block ?_;refine AW.sr envOk (fun N hN=>?_);simp-dsimp-implicitDefEqProofs (disch:=omega)only[go_sem,ints,gd_i,hz];refine hN _ ?_;try clear hN N
  refine AW.regionL envOk ?_;simp-dsimp-implicitDefEqProofs (disch:=omega)only[go_sem,ints,gd_i,hz,hyw];refine hN3 _ ?_;try clear hN3 N3
  refine AW.regionL envOk ?_;simp-dsimp-implicitDefEqProofs (disch:=omega)only[go_sem,ints,gd_i];refine⟨(d+1,y.tdiv (os.getD (k+d) 0),fset f (k+d) (y.tmod (os.getD (k+d) 0))),?_,fun _ _ h=>h,?_,?_⟩
  ·simp(disch:=omega) [wks,wkA,sl,w64,ints]<;>omega
  ·refine⟨⟨by first|omega|(simp only;omega)|(dsimp only;omega),by first|omega|(simp only;omega)|(dsimp only;omega)⟩,by dsimp only;rw[xq,hy],fun i hi=>?_⟩
   dsimp only
   by_cases e:i=k+d
   ·simp only[fset];rw[if_pos e,if_pos (by omega),e,dgF,if_neg (by omega),Nat.add_sub_cancel_left,←hy]
   simp only[fset];rw[if_neg e,hf i hi];by_cases e2:i<k+d
   ·rw[if_pos e2,if_pos (by omega)]
   rw[if_neg e2,if_neg (by omega)]
  first|omega|(simp only;omega)
 try simp only[cn]at h1
 refine AW.exit ?_;simp only[thn,blk,if_true];refine hN1 _ ?_;try clear hN1 N1
 refine AW.sr envOk (fun N hN=>?_);simp-dsimp-implicitDefEqProofs (disch:=omega)only[go_sem,ints,gd_i];refine hN _ ?_;try clear hN N
 refine AW.ret ?_;simp-dsimp-implicitDefEqProofs (disch:=omega)only[go_sem];rw[ivs_ext (f:=f) (g:=dgF os k x0) (fun i hi=>by rw[hf i hi,if_pos (by omega)])]
 exact⟨_,Own.ints (by rw[upd_same,dgV,vec_map]) (by rw[dgV_len]) (by omega) (by omega)⟩
theorem mul_nn {a b A B:Int} (h1:0≤a) (h2:a≤A) (h3:0≤b) (h4:b≤B):0≤a*b∧a*b≤A*B:=
  ⟨Int.mul_nonneg h1 h3,Int.mul_le_mul h2 h4 h3 (by omega)⟩
theorem tm_bd {a m:Int} (h:0≤a) (hm:1≤m):0≤a.tmod m∧a.tmod m<m:=by
  rw[Int.tmod_eq_emod_of_nonneg h]
  exact⟨Int.emod_nonneg _ (by omega),Int.emod_lt_of_pos _ (by omega)⟩
def powQ (m:Int) (r:AV):Prop:=∃x,r= .i .i64 x∧0≤x∧x<m
theorem spec_l01Power_o (b e n:Int) (hn:1≤n∧n≤1000) (hb:0≤b∧b≤1000) (he:0≤e∧e≤1000):∀nx,AC Tryz.prog 156 nx noH [.i .i64 b,.i .i64 e,.i .i64 n] (fun nx' H' r=>∃r2,Fz H' (blw nx H') r r2∧powQ n r2):=by
 have hz:¬n=0:=by omega
 intro nx
 refine AC.intro' envOk Tryz.func156 rfl (by kernel_rfl) Tryz.ntmps156 Tryz.results156 (fun cX=>?_)
 refine AW.sr envOk (fun N hN=>?_);simp-dsimp-implicitDefEqProofs (disch:=omega)only[go_sem,hz];refine hN _ ?_;try clear hN N
 refine AW.sr envOk (fun N hN=>?_);simp-dsimp-implicitDefEqProofs (disch:=omega)only[go_sem,hz];refine hN _ ?_;try clear hN N
 refine AW.seq (fun N1 hN1=>?_);refine AW.block ?_;refine AW.loopN (α:=Int×Int×Int) (fun x=>sl 28 [(0,.i .i64 x.2.1),(1,.i .i64 x.2.2),(2,.i .i64 n),(7,.i .i64 x.1)]) (fun _=>noH) (fun x m=>(0≤x.1∧x.1<n)∧(0≤x.2.1∧x.2.1≤1000)∧(0≤x.2.2∧x.2.2≤1000)) (fun x=>x.2.2.toNat) (((1:Int).tmod n,b,e)) ?_ ?_ (fun _ _ h=>h) ?_
 ·exact⟨tm_bd (by omega) hn.1,hb,he⟩
 ·simp(disch:=omega) [wks,wkA,sl,w64,ints,rows,cubes,w64,hz]<;>omega
 skip
 rintro⟨o,b,e⟩ m ⟨ho,hb,he⟩
 simp-dsimp-implicitDefEqProofs (disch:=omega)only[go_sem];dsimp only at ho hb he ⊢
 refine AW.seq (fun N2 hN2=>?_);refine AW.sr envOk (fun N hN=>?_);simp-dsimp-implicitDefEqProofs (disch:=omega)only[go_sem,hz];refine hN _ ?_;try clear hN N
 refine AW.cond rfl (fun h1=>?_) (fun h1=>?_)
 ·try simp only[cn]at h1
  have hob:=mul_nn ho.1 (show o≤1000 by omega) hb.1 hb.2
  have hbb:=mul_nn hb.1 hb.2 hb.1 hb.2
  have h3:=tm_bd hob.1 hn.1
  have h4:=tm_bd hbb.1 hn.1
  have he2:0≤e.tdiv 2∧e.tdiv 2<e∧e.tdiv 2≤1000:=by rw[Int.tdiv_eq_ediv_of_nonneg he.1];omega
  refine AW.skip ?_;simp only[thn,blk];refine hN2 _ ?_;try clear hN2 N2
  refine AW.block ?_;refine AW.seq (fun N3 hN3=>?_);refine AW.sr envOk (fun N hN=>?_);simp-dsimp-implicitDefEqProofs (disch:=omega)only[go_sem,hz];refine hN _ ?_;try clear hN N
  refine AW.cond rfl (fun h2=>?_) (fun h2=>?_)
  ·try simp only[cn]at h2
   refine AW.regionL envOk ?_;simp-dsimp-implicitDefEqProofs (disch:=omega)only[go_sem,hz];refine hN3 _ ?_;try clear hN3 N3
   refine AW.sr envOk (fun N hN=>?_);simp-dsimp-implicitDefEqProofs (disch:=omega)only[go_sem,hz];refine hN _ ?_;try clear hN N
   refine AW.regionL envOk ?_;simp-dsimp-implicitDefEqProofs (disch:=omega)only[go_sem,hz];refine⟨((o*b).tmod n,(b*b).tmod n,e.tdiv 2),?_,fun _ _ h=>h,?_,?_⟩
   ·simp(disch:=omega) [wks,wkA,sl,w64,ints,rows,cubes,w64,hz]<;>omega
   ·exact⟨h3,by first|omega|(simp only;omega)|(dsimp only;omega),by first|omega|(simp only;omega)|(dsimp only;omega)⟩
   first|omega|(simp only;omega)
  try simp only[cn]at h2
  refine AW.skip ?_;simp only[thn,blk];refine hN3 _ ?_;try clear hN3 N3
  refine AW.sr envOk (fun N hN=>?_);simp-dsimp-implicitDefEqProofs (disch:=omega)only[go_sem,hz];refine hN _ ?_;try clear hN N
  refine AW.regionL envOk ?_;simp-dsimp-implicitDefEqProofs (disch:=omega)only[go_sem,hz];refine⟨(o,(b*b).tmod n,e.tdiv 2),?_,fun _ _ h=>h,?_,?_⟩
  ·simp(disch:=omega) [wks,wkA,sl,w64,ints,rows,cubes,w64,hz]<;>omega
  ·exact⟨ho,by first|omega|(simp only;omega)|(dsimp only;omega),by first|omega|(simp only;omega)|(dsimp only;omega)⟩
  first|omega|(simp only;omega)
 try simp only[cn]at h1
 refine AW.exit ?_;simp only[thn,blk,if_true];refine hN1 _ ?_;try clear hN1 N1
 refine AW.sr envOk (fun N hN=>?_);simp-dsimp-implicitDefEqProofs (disch:=omega)only[go_sem,hz];refine hN _ ?_;try clear hN N
 refine AW.ret ?_;simp-dsimp-implicitDefEqProofs (disch:=omega)only[go_sem];exact⟨_,.refl _,o,rfl,ho.1,ho.2⟩
theorem spec_l01Power_z (b e n:Int) (hn:1≤n∧n≤1000) (hb:0≤b∧b≤1000) (he:0≤e∧e≤1000) (nx:Nat) (H:HP):AC Tryz.prog 156 nx H [.i .i64 b,.i .i64 e,.i .i64 n] (zK nx H (powQ n)):=AC.zz (spec_l01Power_o b e n hn hb he nx) H
def smE (w:List Int):Prop:=∀k,0≤w.getD k 0∧w.getD k 0≤10
def rowQ (n:Nat) (r:AV):Prop:=∃w,r=ints w∧w.length=n∧smE w
theorem smE_vec {n:Nat} {f:Nat→Int} (h:∀k,k<n→0≤f k∧f k≤10):smE (vec n f):=fun k=>by
  by_cases hk:k<n
  · have:=h k hk;simp[vec,hk];omega
  simp[vec,hk]
set_option maxHeartbeats 1000000 in
theorem spec_l02Times_o (p:Int) (hp:1≤p∧p≤10) (v:List Int) (b:List (List Int)) (n:Nat) (hn:n≤1000) (hv:smE v) (hb:∀k,smE (b.getD k [])) (hvl:v.length≤1000) (hbl:b.length≤1000) (hbr:∀k,(b.getD k []).length≤1000):∀nx,AC Tryz.prog 159 nx noH [.i .i64 p,ints v,rows b,.i .i64 n] (fun nx' H' r=>∃r2,Fz H' (blw nx H') r r2∧rowQ n r2):=by
 have hz:¬p=0:=by omega
 intro nx
 refine AC.intro' envOk Tryz.func159 rfl (by kernel_rfl) Tryz.ntmps159 Tryz.results159 (fun cX=>?_)
 refine AW.sr envOk (fun N hN=>?_);simp-dsimp-implicitDefEqProofs (disch:=omega)only[go_sem,ints,rows,gd_i,gd_r,hz];refine hN _ ?_;try clear hN N
 refine AW.sr envOk (fun N hN=>?_);simp-dsimp-implicitDefEqProofs (disch:=omega)only[go_sem,ints,rows,gd_i,gd_r,hz];refine hN _ ?_;try clear hN N
 refine AW.seq (fun N1 hN1=>?_);refine AW.sr envOk (fun N hN=>?_);simp-dsimp-implicitDefEqProofs (disch:=omega)only[go_sem,ints,rows,gd_i,gd_r,hz];refine hN _ ?_;try clear hN N
 refine AW.block ?_;refine AW.loopN (α:=Nat×(Nat→Int)) (fun x=>sl 64 [(0,.i .i64 p),(1,ints v),(2,rows b),(9,.h (nx+1+1) 0 n),(10,.i .i64 x.1)]) (fun x=>upd noH (nx+1+1) (some (ivs n x.2))) (fun x m=>(x.1≤1000∧nx+4≤m)∧∀j,j<n→0≤x.2 j∧x.2 j≤10) (fun x=>1001-x.1) ((0,fun _=>0)) ?_ ?_ (by rw[ivs_zero];exact Le.refl _) ?_
 ·exact⟨⟨by simp,by first|omega|(simp only;omega)|(dsimp only;omega)⟩,fun j _=>by simp⟩
 ·simp(disch:=omega) [wks,wkA,sl,w64,ints,rows,cubes,w64,ints,rows,gd_i,gd_r,hz]<;>omega
 skip
 rintro⟨i,f⟩ m ⟨⟨hi,hm⟩,hf⟩
 simp-dsimp-implicitDefEqProofs (disch:=omega)only[go_sem];dsimp only at hi hm hf ⊢
 refine AW.seq (fun N2 hN2=>?_);refine AW.sr envOk (fun N hN=>?_);simp-dsimp-implicitDefEqProofs (disch:=omega)only[go_sem,ints,rows,gd_i,gd_r,hz];refine gopB.mk' (fun h1=>?_) (fun h1=>?_)
 ·try simp only[cn]at h1
  try simp-dsimp-implicitDefEqProofs (disch:=omega)only[go_sem,ints,rows,gd_i,gd_r,hz]
  refine hN _ ?_;try clear hN N
  refine AW.cond rfl (fun h2=>?_) (fun h2=>?_)
  ·try simp only[cn]at h2
   refine AW.skip ?_;simp only[thn,blk];refine hN2 _ ?_;try clear hN2 N2
   refine AW.seq (fun N3 hN3=>?_);refine AW.block ?_;refine AW.sr envOk (fun N hN=>?_);simp-dsimp-implicitDefEqProofs (disch:=omega)only[go_sem,ints,rows,gd_i,gd_r,hz];refine hN _ ?_;try clear hN N
   refine AW.block ?_;refine AW.loopN (α:=Nat×(Nat→Int)) (fun x=>sl 64 [(0,.i .i64 p),(1,ints v),(2,rows b),(9,.h (nx+1+1) 0 n),(10,.i .i64 i),(11,.i .i64 x.1)]) (fun x=>upd noH (nx+1+1) (some (ivs n x.2))) (fun x m=>(x.1≤n∧nx+4≤m)∧∀j,j<n→0≤x.2 j∧x.2 j≤10) (fun x=>n-x.1) ((0,f)) ?_ ?_ (fun _ _ h=>h) ?_
   ·exact⟨⟨by simp,by first|omega|(simp only;omega)|(dsimp only;omega)⟩,hf⟩
   ·simp(disch:=omega) [wks,wkA,sl,w64,ints,rows,cubes,w64,ints,rows,gd_i,gd_r,hz]<;>omega
   skip
   rintro⟨j,f⟩ m ⟨⟨hj,hm⟩,hf⟩
   simp-dsimp-implicitDefEqProofs (disch:=omega)only[go_sem];dsimp only at hj hm hf ⊢
   have hbl2:=hbr i
   refine AW.seq (fun N4 hN4=>?_);refine AW.sr envOk (fun N hN=>?_);simp-dsimp-implicitDefEqProofs (disch:=omega)only[go_sem,ints,rows,gd_i,gd_r,hz];refine gopB.mk' (fun h3=>?_) (fun h3=>?_)
   ·try simp only[cn]at h3
    try simp-dsimp-implicitDefEqProofs (disch:=omega)only[go_sem,ints,rows,gd_i,gd_r,hz]
    refine hN _ ?_;try clear hN N
    refine AW.cond rfl (fun h4=>?_) (fun h4=>?_)
    ·try simp only[cn]at h4
     have hfj:=hf j (by omega)
     have hvi:=hv i
     have hbj:=hb i j
     have hpr:=mul_nn hvi.1 hvi.2 hbj.1 hbj.2
     have ht:=tm_bd (a:=f j+v.getD i 0*(b.getD i []).getD j 0) (m:=p) (by omega) hp.1
     refine AW.skip ?_;simp only[thn,blk];refine hN4 _ ?_;try clear hN4 N4
     refine AW.seq (fun N5 hN5=>?_);refine AW.block ?_;refine AW.drawL envOk (by kernel_rfl) 22 (by kernel_rfl) ?_
     simp-dsimp-implicitDefEqProofs (disch:=omega)only[hr_nil,hr_one,hr_if,List.take_succ_cons,List.take_zero,List.drop_succ_cons,List.drop_zero,List.take_nil,List.drop_nil,go_sem,undef,w64,ints,rows,gd_i,gd_r,hz];refine hN5 _ ?_;try clear hN5 N5
     refine AW.regionL envOk ?_;simp-dsimp-implicitDefEqProofs (disch:=omega)only[go_sem,ints,rows,gd_i,gd_r,hz];refine⟨(j+1,fset f j ((f j+v.getD i 0*(b.getD i []).getD j 0).tmod p)),?_,fun _ _ h=>h,?_,?_⟩
     ·simp(disch:=omega) [wks,wkA,sl,w64,ints,rows,cubes,w64,ints,rows,gd_i,gd_r,hz]<;>omega
     ·refine⟨⟨by first|omega|(simp only;omega)|(dsimp only;omega),by first|omega|(simp only;omega)|(dsimp only;omega)⟩,fun q hq=>?_⟩
      dsimp only[fset]
      split
      ·omega
      exact hf q hq
     first|omega|(simp only;omega)
    try simp only[cn]at h4
    refine AW.exit ?_;simp only[thn,blk,if_true];refine hN3 _ ?_;try clear hN3 N3
    refine AW.regionL envOk ?_;simp-dsimp-implicitDefEqProofs (disch:=omega)only[go_sem,ints,rows,gd_i,gd_r,hz];refine⟨(i+1,f),?_,fun _ _ h=>h,?_,?_⟩
    ·simp(disch:=omega) [wks,wkA,sl,w64,ints,rows,cubes,w64,ints,rows,gd_i,gd_r,hz]<;>omega
    ·exact⟨⟨by first|omega|(simp only;omega)|(dsimp only;omega),by first|omega|(simp only;omega)|(dsimp only;omega)⟩,hf⟩
    first|omega|(simp only;omega)
   try simp only[cn]at h3
   try simp-dsimp-implicitDefEqProofs (disch:=omega)only[go_sem,ints,rows,gd_i,gd_r,hz]
   refine hN _ ?_;try clear hN N
   refine AW.condF rfl ?_;refine AW.exit ?_;simp only[thn,blk,if_true];refine hN3 _ ?_;try clear hN3 N3
   refine AW.regionL envOk ?_;simp-dsimp-implicitDefEqProofs (disch:=omega)only[go_sem,ints,rows,gd_i,gd_r,hz];refine⟨(i+1,f),?_,fun _ _ h=>h,?_,?_⟩
   ·simp(disch:=omega) [wks,wkA,sl,w64,ints,rows,cubes,w64,ints,rows,gd_i,gd_r,hz]<;>omega
   ·exact⟨⟨by first|omega|(simp only;omega)|(dsimp only;omega),by first|omega|(simp only;omega)|(dsimp only;omega)⟩,hf⟩
   first|omega|(simp only;omega)
  try simp only[cn]at h2
  refine AW.exit ?_;simp only[thn,blk,if_true];refine hN1 _ ?_;try clear hN1 N1
  refine AW.sr envOk (fun N hN=>?_);simp-dsimp-implicitDefEqProofs (disch:=omega)only[go_sem,ints,rows,gd_i,gd_r,hz];refine hN _ ?_;try clear hN N
  refine AW.ret ?_;simp-dsimp-implicitDefEqProofs (disch:=omega)only[go_sem];exact⟨_,Fz.blk' (upd_same _ _ _) (by omega),_,rfl,vec_len,smE_vec hf⟩
 try simp only[cn]at h1
 try simp-dsimp-implicitDefEqProofs (disch:=omega)only[go_sem,ints,rows,gd_i,gd_r,hz]
 refine hN _ ?_;try clear hN N
 refine AW.condF rfl ?_;refine AW.exit ?_;simp only[thn,blk,if_true];refine hN1 _ ?_;try clear hN1 N1
 refine AW.sr envOk (fun N hN=>?_);simp-dsimp-implicitDefEqProofs (disch:=omega)only[go_sem,ints,rows,gd_i,gd_r,hz];refine hN _ ?_;try clear hN N
 refine AW.ret ?_;simp-dsimp-implicitDefEqProofs (disch:=omega)only[go_sem];exact⟨_,Fz.blk' (upd_same _ _ _) (by omega),_,rfl,vec_len,smE_vec hf⟩
theorem spec_l02Times_z (p:Int) (hp:1≤p∧p≤10) (v:List Int) (b:List (List Int)) (n:Nat) (hn:n≤1000) (hv:smE v) (hb:∀k,smE (b.getD k [])) (hvl:v.length≤1000) (hbl:b.length≤1000) (hbr:∀k,(b.getD k []).length≤1000) (nx:Nat) (H:HP):AC Tryz.prog 159 nx H [.i .i64 p,ints v,rows b,.i .i64 n] (zK nx H (rowQ n)):=AC.zz (spec_l02Times_o p hp v b n hn hv hb hvl hbl hbr nx) H
structure sqM (n:Nat) (W:List (List Int)):Prop where
  l:W.length=n
  r:∀w∈W,w.length=n∧smE w
theorem sqM.at {n:Nat} {W:List (List Int)} (h:sqM n W) (k:Nat):smE (W.getD k [])∧(W.getD k []).length≤n:=by
  by_cases hk:k<W.length
  · rw[List.getD_eq_getElem?_getD,List.getElem?_eq_getElem hk]
    have:=h.r _ (List.getElem_mem hk)
    exact⟨this.2,by simp;omega⟩
  rw[List.getD_eq_getElem?_getD,List.getElem?_eq_none (by omega)]
  exact⟨fun k=>by simp,by simp⟩
def matQ (n:Nat) (r:AV):Prop:=∃W,r=rows W∧sqM n W
set_option maxHeartbeats 1000000 in
theorem spec_l02Product_o (p:Int) (hp:1≤p∧p≤10) (n:Nat) (hn:n≤10) (a b:List (List Int)) (ha:sqM n a) (hb:sqM n b):∀nx,AC Tryz.prog 157 nx noH [.i .i64 p,rows a,rows b,.i .i64 n] (fun nx' H' r=>∃r2,Fz H' (blw nx H') r r2∧matQ n r2):=by
 have hal:=ha.l
 have hbl:=hb.l
 intro nx
 refine AC.intro' envOk Tryz.func157 rfl (by kernel_rfl) Tryz.ntmps157 Tryz.results157 (fun cX=>?_)
 refine AW.sr envOk (fun N hN=>?_);simp-dsimp-implicitDefEqProofs (disch:=omega)only[go_sem,rows,gd_r];refine hN _ ?_;try clear hN N
 refine AW.sr envOk (fun N hN=>?_);simp-dsimp-implicitDefEqProofs (disch:=omega)only[go_sem,rows,gd_r];refine hN _ ?_;try clear hN N
 refine AW.seq (fun N1 hN1=>?_);refine AW.sr envOk (fun N hN=>?_);simp-dsimp-implicitDefEqProofs (disch:=omega)only[go_sem,rows,gd_r];refine hN _ ?_;try clear hN N
 refine AW.block ?_;refine AW.loopN (α:=Nat×HP×AV×List (List Int)) (fun x=>sl 30 [(0,.i .i64 p),(1,rows a),(2,rows b),(3,.i .i64 n),(9,x.2.2.1),(10,.i .i64 x.1)]) (fun x=>x.2.1) (fun x m=>(x.1≤n∧nx+3≤m)∧LC x.2.1 nx m x.2.2.1 (x.2.2.2.map ints)∧x.2.2.2.length=x.1∧∀w∈x.2.2.2,w.length=n∧smE w) (fun x=>n-x.1) ((0,upd noH (nx+1) (some []),.h (nx+1) 0 0,[])) ?_ ?_ (fun _ _ h=>h) ?_
 ·exact⟨⟨by simp,by first|omega|(simp only;omega)|(dsimp only;omega)⟩,LC.mk (upd_same _ _ _) rfl (by omega) (by first|omega|(simp only;omega)|(dsimp only;omega)),rfl,by simp⟩
 ·simp(disch:=omega) [wks,wkA,sl,w64,ints,rows,cubes,w64,rows,gd_r]<;>omega
 skip
 rintro⟨i,G,L,W⟩ m ⟨⟨hi,hm⟩,hL,hWl,hW⟩
 simp-dsimp-implicitDefEqProofs (disch:=omega)only[go_sem];dsimp only at hi hm hL hWl hW ⊢
 have hLo:=hL.one
 have hLl:=hL.len
 refine AW.seq (fun N2 hN2=>?_);refine AW.sr envOk (fun N hN=>?_);simp-dsimp-implicitDefEqProofs (disch:=omega)only[go_sem,rows,gd_r];refine hN _ ?_;try clear hN N
 refine AW.cond rfl (fun h1=>?_) (fun h1=>?_)
 ·try simp only[cn]at h1
  have hai:=ha.at i
  refine AW.skip ?_;simp only[thn,blk];refine hN2 _ ?_;try clear hN2 N2
  refine AW.seq (fun N3 hN3=>?_);refine AW.block ?_;refine AW.regionL envOk ?_;simp-dsimp-implicitDefEqProofs (disch:=omega)only[go_sem,rows,gd_r];refine(spec_l02Times_z p hp (a.getD i []) b n (by omega) hai.1 (fun k=>(hb.at k).1) (by omega) (by omega) (fun k=>by have:=(hb.at k).2;omega) _ _).mono2 ?_
  rintro m1 H1 r1 hm1 ⟨⟨w,rfl,hwl,hws⟩,hlow⟩
  have hL1:=hL.keep (H':=H1) (fun j h1 h2=>hlow j (by omega))
  try simp-dsimp-implicitDefEqProofs (disch:=(first|omega|((repeat refine LC.upd (by omega) ?_);assumption))) only[go_sem,hLo,hLl,apst_LC (a:=nx) (b:=m) (L:=L) (cs:=W.map ints)]
  refine hN3 _ ?_;try clear hN3 N3
  refine AW.nameH (fun G3 hG3=>?_);dsimp only at hG3
  refine AW.regionL envOk ?_;simp-dsimp-implicitDefEqProofs (disch:=omega)only[go_sem,rows,gd_r];refine⟨(i+1,G3,.h (m+4+10) 0 (W.length+1),W++[w]),?_,fun _ _ h=>h,?_,?_⟩
  ·simp(disch:=omega) [wks,wkA,sl,w64,rows]<;>omega
  ·have hmk:LC G3 nx (m1+3) (.h (m+4+10) 0 (W.length+1)) ((W++[w]).map ints):=LC.mk (by rw[←hG3,List.map_append];simp(disch:=omega)only[upd_ne,upd_same];rfl) (by simp) (by omega) (by omega)
   have hW2:∀z∈W++[w],z.length=n∧smE z:=app_all hW ⟨hwl,hws⟩
   first|exact⟨⟨by first|omega|(simp only;omega)|(dsimp only;omega),by first|omega|(simp only;omega)|(dsimp only;omega)⟩,hmk,by simp;omega,hW2⟩|exact⟨by first|omega|(simp only;omega)|(dsimp only;omega),hmk,by simp;omega,hW2⟩
  first|omega|(simp only;omega)
 try simp only[cn]at h1
 refine AW.exit ?_;simp only[thn,blk,if_true];refine hN1 _ ?_;try clear hN1 N1
 refine AW.sr envOk (fun N hN=>?_);simp-dsimp-implicitDefEqProofs (disch:=omega)only[go_sem,rows,gd_r];refine hN _ ?_;try clear hN N
 refine AW.ret ?_;simp-dsimp-implicitDefEqProofs (disch:=omega)only[go_sem];exact⟨_,hL.fzR (Nat.le_refl _),W,rfl,by omega,hW⟩
theorem spec_l02Product_z (p:Int) (hp:1≤p∧p≤10) (n:Nat) (hn:n≤10) (a b:List (List Int)) (ha:sqM n a) (hb:sqM n b) (nx:Nat) (H:HP):AC Tryz.prog 157 nx H [.i .i64 p,rows a,rows b,.i .i64 n] (zK nx H (matQ n)):=AC.zz (spec_l02Product_o p hp n hn a b ha hb nx) H
end Go.Proofs.YtghmeeifjeafmaaGreat
