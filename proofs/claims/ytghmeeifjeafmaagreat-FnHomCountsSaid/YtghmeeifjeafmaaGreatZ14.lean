import Derived.Test.YtghmeeifjeafmaaGreatZ11
import Derived.Test.YtghmeeifjeafmaaGreatZ12
import Derived.Test.YtghmeeifjeafmaaGreatZ13
set_option linter.unusedVariables false
set_option linter.unusedSimpArgs false
namespace Go.Proofs.YtghmeeifjeafmaaGreat
open Nat (reduceAdd reduceSub reduceGT reduceEqDiff reduceMul)
def rvF (n:Nat) (f:Nat→Int) (x:Nat):Nat→Int:=fun t=>if t<x∨n≤t+x then f (n-1-t)else f t
theorem rv_next {n:Nat} {f:Nat→Int} {x:Nat} (h:x<n-1-x):ivs n (fset (fset (rvF n f x) x (f (n-1-x))) (n-1-x) (f x))=ivs n (rvF n f (x+1)):=by
  refine ivs_ext fun t ht=>?_
  unfold fset rvF
  by_cases e1:t=n-1-x
  · rw[if_pos e1,if_pos (by omega),show n-1-t=x by omega]
  rw[if_neg e1]
  by_cases e2:t=x
  · rw[if_pos e2,if_pos (by omega),show n-1-t=n-1-x by omega]
  rw[if_neg e2]
  by_cases e3:t<x∨n≤t+x
  · rw[if_pos e3,if_pos (by omega)]
  rw[if_neg e3,if_neg (by omega)]
theorem rv_end {n:Nat} {f:Nat→Int} {x:Nat} (h:¬x<n-1-x) (hx:x≤n):ivs n (rvF n f x)=ivs n (fun t=>f (n-1-t)):=by
  refine ivs_ext fun t ht=>?_
  unfold rvF
  by_cases e3:t<x∨n≤t+x
  · rw[if_pos e3]
  rw[if_neg e3,show n-1-t=t by omega]
set_option maxHeartbeats 1000000 in
theorem slices_Reverse_o (n:Nat) (hn:n≤1048576) (f:Nat→Int) (nx:Nat) (H:HP) (id:Nat) (hH:H id=some (ivs n f)):AC Tryz.prog 108 nx H [.h id 0 n] (fun _ H' _=>H'=upd H id (some (ivs n (fun t=>f (n-1-t))))):=by
 refine AC.introx envOk Tryz.func108 rfl (by kernel_rfl) Tryz.ntmps108 Tryz.results108 (fun hfr cX=>?_)
 refine AW.sr envOk (fun N hN=>?_);simp-dsimp-implicitDefEqProofs (maxSteps:=800000) (disch:=omega)only[go_sem,hH];refine hN _ ?_;try clear hN N
 refine AW.block ?_;refine AW.loopN (α:=Nat) (fun x=>sl 28 [(0,.h id 0 n),(2,.i .i64 x),(3,.i .i64 ((n:Int)-1-x))]) (fun x=>upd H id (some (ivs n (rvF n f x)))) (fun x m=>x≤n) (fun x=>n-x) (0) ?_ ?_ (by rw[ivs_ext (f:=rvF n f 0) (g:=f) (fun t ht=>by unfold rvF;rw[if_neg (by omega)])];intro d cs hd;simp only[upd]at hd ⊢;grind) ?_
 ·omega
 ·simp(disch:=omega) [wks,wkA,sl]
 skip
 rintro x m hx
 simp-dsimp-implicitDefEqProofs (maxSteps:=800000) (disch:=omega)only[go_sem];refine AW.seq (fun N1 hN1=>?_);refine AW.sr envOk (fun N hN=>?_);simp-dsimp-implicitDefEqProofs (maxSteps:=800000) (disch:=omega)only[go_sem,hH];refine hN _ ?_;try clear hN N
 refine AW.cond rfl (fun h1=>?_) (fun h1=>?_)
 ·try simp only[cn]at h1
  have e1:((n:Int)-1-x).toNat=n-1-x:=by omega
  have e2:rvF n f x (n-1-x)=f (n-1-x):=by unfold rvF;rw[if_neg (by omega)]
  have e3:rvF n f x x=f x:=by unfold rvF;rw[if_neg (by omega)]
  have hg:=rv_next (f:=f) (show x<n-1-x by omega)
  refine AW.skip ?_;simp only[thn,blk];refine hN1 _ ?_;try clear hN1 N1
  refine AW.seq (fun N2 hN2=>?_);refine AW.block ?_;refine AW.drawT envOk (by kernel_rfl) [true,true,true,true,true,true,true,false,true,true,true,false,true,false,true,false] (.br 7 (.br 11 (.br 13 (.br 15 .nil .nil) .nil) .nil) (.br 11 (.br 7 (.br 13 (.br 15 .nil .nil) .nil) .nil) .nil)) (by kernel_rfl) ?_
  simp-dsimp-implicitDefEqProofs (maxSteps:=800000) (disch:=omega)only[go_sem,hH,e1,e2,e3];refine⟨?_,?_⟩
  all_goals
   refine hN2 _ ?_;try clear hN2 N2
   refine AW.regionL envOk ?_;simp-dsimp-implicitDefEqProofs (maxSteps:=800000) (disch:=omega)only[go_sem,hH];refine⟨x+1,?_,(by rw[←hg];exact fun _ _ h=>h),?_,?_⟩
   ·simp(disch:=omega) [wks,wkA,sl,w64]<;>omega
   ·omega
   first|omega|(simp only;omega)
 try simp only[cn]at h1
 refine AW.exit ?_;simp only[thn,blk,if_true];have hx2:ivs n (rvF n f x)=ivs n (fun t=>f (n-1-t)):=rv_end (by omega) hx
 rw[hx2]
 exact⟨_,fun _ _ h=>h,rfl⟩
theorem rev_ivs (xs:List Int):ivs xs.length (fun t=>xs.getD (xs.length-1-t) 0)=xs.reverse.map (AV.i .i64):=by
  rw[map_ivs,List.length_reverse]
  exact ivs_ext fun k hk=>by simp[List.getD_eq_getElem?_getD,List.getElem?_reverse hk]
open Nat (reduceAdd reduceSub reduceGT reduceEqDiff reduceMul)
theorem slices_Reverse_nil (nx:Nat) (H:HP):AC Tryz.prog 108 nx H [.nl] (fun _ H' _=>H'=H):=by
 refine AC.introx envOk Tryz.func108 rfl (by kernel_rfl) Tryz.ntmps108 Tryz.results108 (fun hfr cX=>?_)
 refine AW.sr envOk (fun N hN=>?_);simp-dsimp-implicitDefEqProofs (disch:=omega)only[go_sem];refine hN _ ?_;try clear hN N
 refine AW.block ?_;refine AW.loop1 ?_;refine AW.seq (fun N1 hN1=>?_);refine AW.sr envOk (fun N hN=>?_);simp-dsimp-implicitDefEqProofs (disch:=omega)only[go_sem];refine hN _ ?_;try clear hN N
 refine AW.cond rfl (fun h=>absurd h (by first|(simp;done)|(simp only[decide_eq_true_eq];omega))) (fun _=>?_)
 refine AW.exit ?_;simp only[thn,blk,if_true];exact⟨_,fun _ _ h=>h,rfl⟩
open Nat (reduceAdd reduceSub reduceGT reduceEqDiff reduceMul)
theorem wu64 {n:Int} (h0:0≤n) (h1:n≤18446744073709551615):IntKind.wrap .u64 n=n:=by
  simp[IntKind.wrap,IntKind.bits,IntKind.signed]
  omega
theorem and32 {a:Int} (h0:0≤a) (h1:a≤4294967295):IntKind.wrap .u64 ((BitVec.ofInt (IntKind.bits .u64) a &&& BitVec.ofInt (IntKind.bits .u64) 4294967295).toNat:Int)=a:=by
  have e:(BitVec.ofInt (IntKind.bits .u64) a &&& BitVec.ofInt (IntKind.bits .u64) 4294967295).toNat=a.toNat:=by
    show(BitVec.ofInt 64 a &&& BitVec.ofInt 64 4294967295).toNat=a.toNat
    rw[BitVec.toNat_and,BitVec.toNat_ofInt,BitVec.toNat_ofInt]
    rw[show((4294967295:Int)%((2^64:Nat):Int)).toNat=2^32-1 from by decide,Nat.and_two_pow_sub_one_eq_mod]
    omega
  rw[e,wu64 (by omega) (by omega)]
  omega
theorem shr32 {a:Int} (h0:0≤a) (h1:a≤4294967295):a.fdiv (2^(min (Int.toNat 32) 64))=0:=by
  show a.fdiv (2^32)=0
  rw[Int.fdiv_eq_ediv_of_nonneg _ (by decide)]
  omega
theorem mul64_nr (a b:Int):NR (.t [.i .u64 a,.i .u64 b]):= .t _ fun k x hx=>by
  match k,hx with
  |0,hx=>cases hx;exact .i _ _
  |1,hx=>cases hx;exact .i _ _
theorem bits_Mul64_ok (n:Int) (h0:0≤n) (hn:n≤4294967295):ACp Tryz.prog 138 [.i .u64 1,.i .u64 n] (.t [.i .u64 0,.i .u64 n]):=by
 refine ACp.intro' envOk Tryz.func138 rfl (by kernel_rfl) Tryz.ntmps138 Tryz.results138 (mul64_nr _ _) (fun nx cX=>?_)
 refine AW.sr envOk (fun N hN=>?_);simp-dsimp-implicitDefEqProofs (maxSteps:=800000) (disch:=omega)only[go_sem,wu64,and32,shr32,Int.one_mul,Int.zero_mul,Int.mul_zero,Int.add_zero,Int.zero_add];refine hN _ ?_;try clear hN N
 refine AW.sr envOk (fun N hN=>?_);simp-dsimp-implicitDefEqProofs (maxSteps:=800000) (disch:=omega)only[go_sem,wu64,and32,shr32,Int.one_mul,Int.zero_mul,Int.mul_zero,Int.add_zero,Int.zero_add];refine hN _ ?_;try clear hN N
 refine AW.sr envOk (fun N hN=>?_);simp-dsimp-implicitDefEqProofs (maxSteps:=800000) (disch:=omega)only[go_sem,wu64,and32,shr32,Int.one_mul,Int.zero_mul,Int.mul_zero,Int.add_zero,Int.zero_add];refine hN _ ?_;try clear hN N
 refine AW.sr envOk (fun N hN=>?_);simp-dsimp-implicitDefEqProofs (maxSteps:=800000) (disch:=omega)only[go_sem,wu64,and32,shr32,Int.one_mul,Int.zero_mul,Int.mul_zero,Int.add_zero,Int.zero_add];refine hN _ ?_;try clear hN N
 refine AW.sr envOk (fun N hN=>?_);simp-dsimp-implicitDefEqProofs (maxSteps:=800000) (disch:=omega)only[go_sem,wu64,and32,shr32,Int.one_mul,Int.zero_mul,Int.mul_zero,Int.add_zero,Int.zero_add];refine hN _ ?_;try clear hN N
 refine AW.sr envOk (fun N hN=>?_);simp-dsimp-implicitDefEqProofs (maxSteps:=800000) (disch:=omega)only[go_sem,wu64,and32,shr32,Int.one_mul,Int.zero_mul,Int.mul_zero,Int.add_zero,Int.zero_add];refine hN _ ?_;try clear hN N
 refine AW.sr envOk (fun N hN=>?_);simp-dsimp-implicitDefEqProofs (maxSteps:=800000) (disch:=omega)only[go_sem,wu64,and32,shr32,Int.one_mul,Int.zero_mul,Int.mul_zero,Int.add_zero,Int.zero_add];refine hN _ ?_;try clear hN N
 refine AW.sr envOk (fun N hN=>?_);simp-dsimp-implicitDefEqProofs (maxSteps:=800000) (disch:=omega)only[go_sem,wu64,and32,shr32,Int.one_mul,Int.zero_mul,Int.mul_zero,Int.add_zero,Int.zero_add];refine hN _ ?_;try clear hN N
 refine AW.sr envOk (fun N hN=>?_);simp-dsimp-implicitDefEqProofs (maxSteps:=800000) (disch:=omega)only[go_sem,wu64,and32,shr32,Int.one_mul,Int.zero_mul,Int.mul_zero,Int.add_zero,Int.zero_add];refine hN _ ?_;try clear hN N
 refine AW.sr envOk (fun N hN=>?_);simp-dsimp-implicitDefEqProofs (maxSteps:=800000) (disch:=omega)only[go_sem,wu64,and32,shr32,Int.one_mul,Int.zero_mul,Int.mul_zero,Int.add_zero,Int.zero_add];refine hN _ ?_;try clear hN N
 refine AW.sr envOk (fun N hN=>?_);simp-dsimp-implicitDefEqProofs (maxSteps:=800000) (disch:=omega)only[go_sem,wu64,and32,shr32,Int.one_mul,Int.zero_mul,Int.mul_zero,Int.add_zero,Int.zero_add];refine hN _ ?_;try clear hN N
 refine AW.sr envOk (fun N hN=>?_);simp-dsimp-implicitDefEqProofs (maxSteps:=800000) (disch:=omega)only[go_sem,wu64,and32,shr32,Int.one_mul,Int.zero_mul,Int.mul_zero,Int.add_zero,Int.zero_add];refine hN _ ?_;try clear hN N
 refine AW.ret ?_;simp-dsimp-implicitDefEqProofs (maxSteps:=800000) (disch:=omega)only[go_sem];skip
theorem bits_Mul_ok (n:Int) (h0:0≤n) (hn:n≤4294967295):ACp Tryz.prog 107 [.i .u64 1,.i .u64 n] (.t [.i .u64 0,.i .u64 n]):=by
 refine ACp.intro' envOk Tryz.func107 rfl (by kernel_rfl) Tryz.ntmps107 Tryz.results107 (mul64_nr _ _) (fun nx cX=>?_)
 refine AW.sr envOk (fun N hN=>?_);simp-dsimp-implicitDefEqProofs (maxSteps:=800000) (disch:=omega)only[go_sem,wu64];refine hN _ ?_;try clear hN N
 refine AW.seq (fun N1 hN1=>?_);refine AW.condF rfl ?_;refine AW.skip ?_;simp only[thn,blk];refine hN1 _ ?_;try clear hN1 N1
 refine AW.sr envOk (fun N hN=>?_);simp-dsimp-implicitDefEqProofs (maxSteps:=800000) (disch:=omega)only[go_sem,wu64];refine AC.pure (.of (bits_Mul64_ok n h0 hn)) ?_;try simp-dsimp-implicitDefEqProofs (maxSteps:=800000) (disch:=omega)only[go_sem,wu64]
 refine hN _ ?_;try clear hN N
 refine AW.sr envOk (fun N hN=>?_);simp-dsimp-implicitDefEqProofs (maxSteps:=800000) (disch:=omega)only[go_sem,wu64];refine hN _ ?_;try clear hN N
 refine AW.ret ?_;simp-dsimp-implicitDefEqProofs (maxSteps:=800000) (disch:=omega)only[go_sem];skip
def rpF (a:Int) (k:Nat):Nat→Int:=fun j=>if j<k then a else 0
theorem rp_next {a:Int} {n k:Nat} (hk:k≤n):splice (ivs n (rpF a k)) k (((ivs n (rpF a k)).take k).take (n-k))=ivs n (rpF a (k+min k (n-k))):=by
  have hl:(((ivs n (rpF a k)).take k).take (n-k)).length=min k (n-k):=by simp[ivs_len];omega
  apply List.ext_getElem?
  intro i
  rw[splice_getE _ _ _ (by rw[hl,ivs_len];omega),hl]
  split
  · rename_i h
    rw[List.getElem?_take,if_pos (by omega),List.getElem?_take,if_pos (by omega)]
    simp only[ivs,List.getElem?_map,List.getElem?_range (show i-k<n by omega),List.getElem?_range (show i<n by omega),Option.map_some,rpF]
    rw[if_pos (by omega),if_pos (by omega)]
  rename_i h
  by_cases hi:i<n
  · simp only[ivs,List.getElem?_map,List.getElem?_range hi,Option.map_some,rpF]
    by_cases h2:i<k
    · rw[if_pos h2,if_pos (by omega)]
    rw[if_neg h2,if_neg (by omega)]
  rw[List.getElem?_eq_none (by rw[ivs_len];omega),List.getElem?_eq_none (by rw[ivs_len];omega)]
theorem rp_one {a:Int} {n:Nat} (hn:0<n):splice (List.replicate n (AV.i .i64 0)) 0 [.i .i64 a]=ivs n (rpF a 1):=by
  apply List.ext_getElem?
  intro i
  rw[splice_getE _ _ _ (by simp;omega)]
  by_cases hi:i<n
  · simp only[ivs,List.getElem?_map,List.getElem?_range hi,Option.map_some,rpF,List.length_singleton]
    by_cases h2:i<1
    · rw[if_pos (by omega),if_pos h2,show i-0=0 by omega];rfl
    rw[if_neg (by omega),if_neg h2,List.getElem?_replicate,if_pos hi]
  rw[if_neg (by simp;omega),List.getElem?_eq_none (by simp;omega),List.getElem?_eq_none (by rw[ivs_len];omega)]
theorem rp_all {a:Int} {n:Nat}:ivs n (rpF a n)=(List.replicate n a).map (.i .i64):=by
  rw[map_ivs,List.length_replicate]
  exact ivs_ext fun k hk=>by simp[rpF,hk]
theorem rp_tl {a:Int} {n k:Nat} (hk:k≤n):((ivs n (rpF a k)).take k).length=k:=by simp[ivs_len];omega
theorem one_tk {n k:Nat} {f:Nat→Int}:(∀z∈List.take k (ivs n f),one z=true)=True:=eq_true (fun z hz=>by
  have:=List.mem_of_mem_take hz
  unfold ivs at this
  obtain⟨j,_,rfl⟩:=List.mem_map.1 this
  rfl)
set_option maxHeartbeats 1000000 in
theorem slices_Repeat_ok (a:Int) (n:Nat) (h0:0<n) (hn:n≤1048576):ACo Tryz.prog 67 [ints [a],.i .i64 n] (ints (List.replicate n a)):=by
 have htk1:List.take n [AV.i .i64 a]=[AV.i .i64 a]:=List.take_of_length_le (by simp;omega)
 have hmin1:min 1 n=1:=by omega
 have hdk0:decide ((0:Int)>0)=false:=by decide
 intro nx
 refine AC.intro' envOk Tryz.func67 rfl (by kernel_rfl) Tryz.ntmps67 Tryz.results67 (fun cX=>?_)
 refine AW.sr envOk (fun N hN=>?_);simp-dsimp-implicitDefEqProofs (maxSteps:=800000) (disch:=omega)only[go_sem,wu64,ivs_len];refine hN _ ?_;try clear hN N
 refine AW.seq (fun N1 hN1=>?_);refine AW.sr envOk (fun N hN=>?_);simp-dsimp-implicitDefEqProofs (maxSteps:=800000) (disch:=omega)only[go_sem,wu64,ivs_len];refine hN _ ?_;try clear hN N
 refine AW.cond rfl (fun h1=>?_) (fun h1=>?_)
 ·try simp only[cn]at h1
  exact absurd h1 (by omega)
 try simp only[cn]at h1
 refine AW.skip ?_;simp only[thn,blk];refine hN1 _ ?_;try clear hN1 N1
 refine AW.sr envOk (fun N hN=>?_);simp-dsimp-implicitDefEqProofs (maxSteps:=800000) (disch:=omega)only[go_sem,wu64,ivs_len];refine AC.pure (.of (bits_Mul_ok n (by omega) (by omega))) ?_;try simp-dsimp-implicitDefEqProofs (maxSteps:=800000) (disch:=omega)only[go_sem,wu64,ivs_len]
 refine hN _ ?_;try clear hN N
 refine AW.seq (fun N2 hN2=>?_);refine AW.sr envOk (fun N hN=>?_);simp-dsimp-implicitDefEqProofs (maxSteps:=800000) (disch:=omega)only[go_sem,wu64,ivs_len,hdk0];refine hN _ ?_;try clear hN N
 refine AW.cond rfl (fun h2=>?_) (fun h2=>?_)
 ·try simp only[cn]at h2
  exact absurd h2 (by omega)
 try simp only[cn]at h2
 refine AW.skip ?_;simp only[thn,blk];refine hN2 _ ?_;try clear hN2 N2
 refine AW.sr envOk (fun N hN=>?_);simp-dsimp-implicitDefEqProofs (maxSteps:=800000) (disch:=omega)only[go_sem,wu64,ivs_len];refine hN _ ?_;try clear hN N
 refine AW.sr envOk (fun N hN=>?_);simp-dsimp-implicitDefEqProofs (maxSteps:=800000) (disch:=omega)only[go_sem,wu64,ivs_len,ints,htk1,hmin1,rp_one h0,List.map_cons,List.map_nil,List.length_singleton,List.length_replicate,one_ii];refine hN _ ?_;try clear hN N
 refine AW.seq (fun N3 hN3=>?_);refine AW.block ?_;refine AW.loopN (α:=Nat) (fun x=>sl 48 [(7,.h (nx+1+2+11+6+2) 0 n),(8,.i .i64 x)]) (fun x=>upd noH (nx+1+2+11+6+2) (some (ivs n (rpF a x)))) (fun x m=>(1≤x∧x≤n)∧nx+23≤m) (fun x=>n-x) (1) ?_ ?_ (by intro d cs hd;simp only[upd,noH]at hd ⊢;grind) ?_
 ·exact⟨⟨by omega,by omega⟩,by first|omega|(simp only;omega)|(dsimp only;omega)⟩
 ·simp(disch:=omega) [wks,wkA,sl,w64,ints,rows,cubes,w64,wu64,ivs_len]<;>omega
 skip
 rintro k m ⟨⟨hk1,hk⟩,hm⟩
 simp-dsimp-implicitDefEqProofs (maxSteps:=800000) (disch:=omega)only[go_sem];have hif:(if k≤n then some (List.take k (ivs n (rpF a k)))else none)=some (List.take k (ivs n (rpF a k))):=if_pos hk
 refine AW.seq (fun N4 hN4=>?_);refine AW.sr envOk (fun N hN=>?_);simp-dsimp-implicitDefEqProofs (maxSteps:=800000) (disch:=omega)only[go_sem,wu64,ivs_len];refine hN _ ?_;try clear hN N
 refine AW.cond rfl (fun h3=>?_) (fun h3=>?_)
 ·try simp only[cn]at h3
  refine AW.skip ?_;simp only[thn,blk];refine hN4 _ ?_;try clear hN4 N4
  refine AW.block ?_;refine AW.drawF envOk (by kernel_rfl) [true,true,true,true,true,true,true,false,false,false] (by kernel_rfl) ?_
  simp-dsimp-implicitDefEqProofs (maxSteps:=800000) (disch:=omega)only[go_sem,wu64,ivs_len,hif,rp_tl hk,one_tk,rp_next hk];refine⟨((k+min k (n-k):Nat)),?_,fun _ _ h=>h,?_,?_⟩
  ·simp(disch:=omega) [wks,wkA,sl,w64,ints,rows,cubes,w64,wu64,ivs_len]<;>omega
  ·first|exact⟨⟨by omega,by omega⟩,by omega⟩|exact⟨by omega,by omega⟩
  first|omega|(simp only;omega)
 try simp only[cn]at h3
 refine AW.exit ?_;simp only[thn,blk,if_true];refine hN3 _ ?_;try clear hN3 N3
 refine AW.sr envOk (fun N hN=>?_);simp-dsimp-implicitDefEqProofs (maxSteps:=800000) (disch:=omega)only[go_sem,wu64,ivs_len];refine hN _ ?_;try clear hN N
 refine AW.ret ?_;simp-dsimp-implicitDefEqProofs (maxSteps:=800000) (disch:=omega)only[go_sem];rw[show k=n by omega,rp_all]
 exact⟨_,Own.ints (upd_same _ _ _) (by simp) (by omega) (by omega)⟩
theorem impl_invertWord_ok (w:List Int) (hw:w.length≤1048576) (hv:∀k,k<w.length→-1048576≤w.getD k 0∧w.getD k 0≤1048576):ACp Tryz.prog 68 [ints w] (ints (invW w)):=by
 refine ACp.introV envOk Tryz.func68 rfl (by kernel_rfl) Tryz.ntmps68 Tryz.results68 ((ints_nr _)) (fun nx cX=>?_)
 refine AW.sr envOk (fun N hN=>?_);simp-dsimp-implicitDefEqProofs (maxSteps:=800000) (disch:=omega)only[go_sem,ints,gd_i];refine hN _ ?_;try clear hN N
 refine AW.sr envOk (fun N hN=>?_);simp-dsimp-implicitDefEqProofs (maxSteps:=800000) (disch:=omega)only[go_sem,ints,gd_i];refine hN _ ?_;try clear hN N
 refine AW.seq (fun N1 hN1=>?_);refine AW.sr envOk (fun N hN=>?_);simp-dsimp-implicitDefEqProofs (maxSteps:=800000) (disch:=omega)only[go_sem,ints,gd_i];refine hN _ ?_;try clear hN N
 refine AW.block ?_;refine AW.loopN (α:=Nat×Option Nat×List Int) (fun x=>sl 21 [(3,oA x.2.1 x.2.2.length),(6,ints w),(7,.i .i64 w.length),(8,.i .i64 x.1)]) (fun x=>oH noH x.2.1 (x.2.2.map (.i .i64))) (fun x m=>(x.1≤w.length∧(x.2.1=none→x.2.2=[]))∧(∀id,x.2.1=some id→id<m)∧x.2.2=(w.map fun t=> -t).take x.1) (fun x=>w.length-x.1) ((0,none,[])) ?_ ?_ (by exact Le.refl _) ?_
 ·exact⟨⟨by omega,fun _=>rfl⟩,fun id hid=>(by cases hid),rfl⟩
 ·simp[wks,wkA,sl,ints,oA]
 skip
 rintro⟨k,(_|id2),K⟩ m ⟨⟨hk,ho⟩,hid,hK⟩
 ·skip
  dsimp only[oA,oH]at hk hid hK ho ⊢
  have hnil:=ho rfl
  subst hnil
  refine AW.sr envOk (fun N hN=>?_);simp-dsimp-implicitDefEqProofs (maxSteps:=800000) (disch:=omega)only[go_sem,ints,gd_i];refine hN _ ?_;try clear hN N
  refine AW.seq (fun N2 hN2=>?_);refine AW.cond rfl (fun h1=>?_) (fun h1=>?_)
  ·try simp only[cn]at h1
   have hvk:=hv k (by omega)
   have htk:(w.map fun t=> -t).take (k+1)=(w.map fun t=> -t).take k++[-(w.getD k 0)]:=by
    rw[take_snoc_getD (d:=0) (by rw[List.length_map];omega)]
    congr 2
    simp[show k<w.length by omega]
   refine AW.skip ?_;simp only[thn,blk];refine hN2 _ ?_;try clear hN2 N2
   refine AW.seq (fun N3 hN3=>?_);refine AW.block ?_;refine AW.sr envOk (fun N hN=>?_);simp-dsimp-implicitDefEqProofs (maxSteps:=800000) (disch:=omega)only[go_sem,ints,gd_i];refine hN _ ?_;try clear hN N
   refine AW.regionL envOk ?_;simp-dsimp-implicitDefEqProofs (maxSteps:=800000) (disch:=omega)only[go_sem,ints,gd_i];refine hN3 _ ?_;try clear hN3 N3
   refine AW.regionL envOk ?_;simp-dsimp-implicitDefEqProofs (maxSteps:=800000) (disch:=omega)only[go_sem,ints,gd_i];refine⟨(k+1,some (m+1+3+4),[-(w.getD k 0)]),?_,(by intro d cs hd;simp only[oH,upd,noH,List.map_cons,List.map_nil,Int.zero_sub]at hd ⊢;grind),?_,?_⟩
   ·simp(disch:=omega) [wks,wkA,sl,w64,ints,oA]
   ·exact⟨⟨by omega,fun h=>by cases h⟩,fun id h=>(by cases h;first|omega|(simp only;omega)|(dsimp only;omega)),by (try simp only[]);rw[htk,←hK];rfl⟩
   first|omega|(simp only;omega)
  try simp only[cn]at h1
  refine AW.exit ?_;simp only[thn,blk,if_true];refine hN1 _ ?_;try clear hN1 N1
  refine AW.sr envOk (fun N hN=>?_);simp-dsimp-implicitDefEqProofs (maxSteps:=800000) (disch:=omega)only[go_sem,ints,gd_i];refine(slices_Reverse_nil _ _).mono2 ?_
  rintro m3 H3 r3 hm3 rfl
  try simp-dsimp-implicitDefEqProofs (maxSteps:=800000) (disch:=omega)only[go_sem,ints,gd_i]
  refine hN _ ?_;try clear hN N
  refine AW.sr envOk (fun N hN=>?_);simp-dsimp-implicitDefEqProofs (maxSteps:=800000) (disch:=omega)only[go_sem,ints,gd_i];refine hN _ ?_;try clear hN N
  refine AW.ret ?_;simp-dsimp-implicitDefEqProofs (maxSteps:=800000) (disch:=omega)only[go_sem];have hfin:invW w=[]:=by
   have:w.length=0:=by
    have:=congrArg List.length hK
    simp at this
    omega
   rw[List.length_eq_zero_iff.1 this];rfl
  rw[hfin]
  exact .nl
 skip
 dsimp only[oA,oH]at hk hid hK ho ⊢
 have hKl:K.length=k:=by rw[hK,List.length_take,List.length_map];omega
 have hid3:=hid id2 rfl
 refine AW.sr envOk (fun N hN=>?_);simp-dsimp-implicitDefEqProofs (maxSteps:=800000) (disch:=omega)only[go_sem,ints,gd_i];refine hN _ ?_;try clear hN N
 refine AW.seq (fun N4 hN4=>?_);refine AW.cond rfl (fun h2=>?_) (fun h2=>?_)
 ·try simp only[cn]at h2
  have hvk:=hv k (by omega)
  have htk:(w.map fun t=> -t).take (k+1)=(w.map fun t=> -t).take k++[-(w.getD k 0)]:=by
   rw[take_snoc_getD (d:=0) (by rw[List.length_map];omega)]
   congr 2
   simp[show k<w.length by omega]
  refine AW.skip ?_;simp only[thn,blk];refine hN4 _ ?_;try clear hN4 N4
  refine AW.seq (fun N5 hN5=>?_);refine AW.block ?_;refine AW.sr envOk (fun N hN=>?_);simp-dsimp-implicitDefEqProofs (maxSteps:=800000) (disch:=omega)only[go_sem,ints,gd_i];refine hN _ ?_;try clear hN N
  refine AW.regionL envOk ?_;simp-dsimp-implicitDefEqProofs (maxSteps:=800000) (disch:=omega)only[go_sem,ints,gd_i];refine hN5 _ ?_;try clear hN5 N5
  refine AW.regionL envOk ?_;simp-dsimp-implicitDefEqProofs (maxSteps:=800000) (disch:=omega)only[go_sem,ints,gd_i];refine⟨(k+1,some (m+1+3+4),K++[-(w.getD k 0)]),?_,(by intro d cs hd;simp only[oH,upd,noH,tk_map,List.map_append,List.map_cons,List.map_nil,Int.zero_sub]at hd ⊢;grind),?_,?_⟩
  ·simp(disch:=omega) [wks,wkA,sl,w64,ints,oA]
  ·exact⟨⟨by omega,fun h=>by cases h⟩,fun id h=>(by cases h;first|omega|(simp only;omega)|(dsimp only;omega)),by (try simp only[]);rw[htk,←hK]⟩
  first|omega|(simp only;omega)
 try simp only[cn]at h2
 refine AW.exit ?_;simp only[thn,blk,if_true];refine hN1 _ ?_;try clear hN1 N1
 refine AW.sr envOk (fun N hN=>?_);simp-dsimp-implicitDefEqProofs (maxSteps:=800000) (disch:=omega)only[go_sem,ints,gd_i];refine(slices_Reverse_o K.length (by omega) (fun j=>K.getD j 0) _ _ id2 (by rw[←map_ivs];exact upd_same _ _ _)).mono2 ?_
 rintro m3 H3 r3 hm3 rfl
 try simp-dsimp-implicitDefEqProofs (maxSteps:=800000) (disch:=omega)only[go_sem,ints,gd_i]
 refine hN _ ?_;try clear hN N
 refine AW.sr envOk (fun N hN=>?_);simp-dsimp-implicitDefEqProofs (maxSteps:=800000) (disch:=omega)only[go_sem,ints,gd_i];refine hN _ ?_;try clear hN N
 refine AW.ret ?_;simp-dsimp-implicitDefEqProofs (maxSteps:=800000) (disch:=omega)only[go_sem];have hfin:invW w=K.reverse:=by rw[hK,show k=w.length by omega,List.take_of_length_le (by rw[List.length_map];exact Nat.le_refl _)];rfl
 rw[hfin]
 exact Vw.ivl (by rw[upd_same,rev_ivs]) (by simp)
end Go.Proofs.YtghmeeifjeafmaaGreat
