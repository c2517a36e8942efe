import Derived.Test.YtghmeeifjeafmaaGreatZ09
set_option linter.unusedVariables false
set_option linter.unusedSimpArgs false
namespace Go.Proofs.YtghmeeifjeafmaaGreat
open Nat (reduceAdd reduceSub reduceGT reduceEqDiff reduceMul)
theorem spec_l01Zero_ok (a:List Int) (ha':a.length≤1099511627776):ACp Tryz.prog 62 [ints a] (.b (tf (zeros a))):=by
 refine ACp.intro' envOk Tryz.func62 rfl (by kernel_rfl) Tryz.ntmps62 Tryz.results62 (.b _) (fun nx cX=>?_)
 refine AW.sr envOk (fun N hN=>?_);simp-dsimp-implicitDefEqProofs (disch:=omega)only[go_sem,ints,gd_i];refine hN _ ?_;try clear hN N
 refine AW.seq (fun N1 hN1=>?_);refine AW.sr envOk (fun N hN=>?_);simp-dsimp-implicitDefEqProofs (disch:=omega)only[go_sem,ints,gd_i];refine hN _ ?_;try clear hN N
 refine AW.block ?_;refine AW.loopN (α:=Nat) (fun x=>sl 15 [(0,ints a),(3,.i .i64 x)]) (fun _=>noH) (fun x m=>x≤a.length∧∀j,j<x→a.getD j 0=0) (fun x=>a.length-x) (0) ?_ ?_ (fun _ _ h=>h) ?_
 ·exact⟨by omega,by intro j hj;omega⟩
 ·simp(disch:=omega) [wks,wkA,sl,w64,ints,rows,cubes,ints,gd_i,w64]<;>omega
 skip
 rintro k m ⟨hk,hI⟩
 simp-dsimp-implicitDefEqProofs (disch:=omega)only[go_sem];refine AW.seq (fun N2 hN2=>?_);refine AW.sr envOk (fun N hN=>?_);simp-dsimp-implicitDefEqProofs (disch:=omega)only[go_sem,ints,gd_i];refine hN _ ?_;try clear hN N
 refine AW.cond rfl (fun h1=>?_) (fun h1=>?_)
 ·try simp only[cn]at h1
  refine AW.skip ?_;simp only[thn,blk];refine hN2 _ ?_;try clear hN2 N2
  refine AW.seq (fun N3 hN3=>?_);refine AW.block ?_;refine AW.sr envOk (fun N hN=>?_);simp-dsimp-implicitDefEqProofs (disch:=omega)only[go_sem,ints,gd_i];refine hN _ ?_;try clear hN N
  refine AW.cond rfl (fun h2=>?_) (fun h2=>?_)
  ·try simp only[cn]at h2
   refine AW.sr envOk (fun N hN=>?_);simp-dsimp-implicitDefEqProofs (disch:=omega)only[go_sem,ints,gd_i];refine hN _ ?_;try clear hN N
   refine AW.ret ?_;simp-dsimp-implicitDefEqProofs (disch:=omega)only[go_sem];exact bt (tf_f (fun h=>h2 (h k (by omega)))).symm
  try simp only[cn]at h2
  refine AW.skip ?_;simp only[thn,blk];refine hN3 _ ?_;try clear hN3 N3
  refine AW.regionL envOk ?_;simp-dsimp-implicitDefEqProofs (disch:=omega)only[go_sem,ints,gd_i];refine⟨k+1,?_,fun _ _ h=>h,?_,?_⟩
  ·simp(disch:=omega) [wks,wkA,sl,w64,ints,rows,cubes,ints,gd_i,w64]<;>omega
  ·refine⟨by omega,fun j hj=>?_⟩
   by_cases e:j=k
   ·subst e;exact h2
   exact hI j (by omega)
  first|omega|(simp only;omega)
 try simp only[cn]at h1
 refine AW.exit ?_;simp only[thn,blk,if_true];refine hN1 _ ?_;try clear hN1 N1
 refine AW.sr envOk (fun N hN=>?_);simp-dsimp-implicitDefEqProofs (disch:=omega)only[go_sem,ints,gd_i];refine hN _ ?_;try clear hN N
 refine AW.ret ?_;simp-dsimp-implicitDefEqProofs (disch:=omega)only[go_sem];exact bt (tf_t (fun j hj=>hI j (by omega))).symm
theorem spec_l01Same_ok (a b:List Int) (ha:a.length≤1099511627776) (hb:b.length≤1099511627776):ACp Tryz.prog 96 [ints a,ints b] (.b (tf (a=b))):=by
 refine ACp.intro' envOk Tryz.func96 rfl (by kernel_rfl) Tryz.ntmps96 Tryz.results96 (.b _) (fun nx cX=>?_)
 refine AW.sr envOk (fun N hN=>?_);simp-dsimp-implicitDefEqProofs (disch:=omega)only[go_sem,ints,gd_i];refine hN _ ?_;try clear hN N
 refine AW.seq (fun N1 hN1=>?_);refine AW.sr envOk (fun N hN=>?_);simp-dsimp-implicitDefEqProofs (disch:=omega)only[go_sem,ints,gd_i];refine hN _ ?_;try clear hN N
 refine AW.cond rfl (fun h1=>?_) (fun h1=>?_)
 ·try simp only[cn]at h1
  refine AW.sr envOk (fun N hN=>?_);simp-dsimp-implicitDefEqProofs (disch:=omega)only[go_sem,ints,gd_i];refine hN _ ?_;try clear hN N
  refine AW.ret ?_;simp-dsimp-implicitDefEqProofs (disch:=omega)only[go_sem];exact bt (tf_f (fun e=>h1 (by rw[e]))).symm
 try simp only[cn]at h1
 have hl:a.length=b.length:=by omega
 refine AW.skip ?_;simp only[thn,blk];refine hN1 _ ?_;try clear hN1 N1
 refine AW.seq (fun N2 hN2=>?_);refine AW.sr envOk (fun N hN=>?_);simp-dsimp-implicitDefEqProofs (disch:=omega)only[go_sem,ints,gd_i];refine hN _ ?_;try clear hN N
 refine AW.block ?_;refine AW.loopN (α:=Nat) (fun x=>sl 26 [(0,ints a),(1,ints b),(5,.i .i64 x)]) (fun _=>noH) (fun x m=>x≤a.length∧a.take x=b.take x) (fun x=>a.length-x) (0) ?_ ?_ (fun _ _ h=>h) ?_
 ·exact⟨by omega,rfl⟩
 ·simp(disch:=omega) [wks,wkA,sl,w64,ints,rows,cubes,ints,gd_i,w64]<;>omega
 skip
 rintro k m ⟨hk,he⟩
 simp-dsimp-implicitDefEqProofs (disch:=omega)only[go_sem];refine AW.seq (fun N3 hN3=>?_);refine AW.sr envOk (fun N hN=>?_);simp-dsimp-implicitDefEqProofs (disch:=omega)only[go_sem,ints,gd_i];refine hN _ ?_;try clear hN N
 refine AW.cond rfl (fun h2=>?_) (fun h2=>?_)
 ·try simp only[cn]at h2
  refine AW.skip ?_;simp only[thn,blk];refine hN3 _ ?_;try clear hN3 N3
  refine AW.seq (fun N4 hN4=>?_);refine AW.block ?_;refine AW.seq (fun N hN=>?_);refine AW.drawL envOk (by kernel_rfl) 9 (by kernel_rfl) ?_
  simp-dsimp-implicitDefEqProofs (disch:=omega)only[hr_nil,hr_one,hr_if,List.take_succ_cons,List.take_zero,List.drop_succ_cons,List.drop_zero,List.take_nil,List.drop_nil,go_sem,undef,ints,gd_i,w64];refine hN _ ?_;try clear hN N
  refine AW.cond rfl (fun h3=>?_) (fun h3=>?_)
  ·try simp only[cn]at h3
   refine AW.sr envOk (fun N hN=>?_);simp-dsimp-implicitDefEqProofs (disch:=omega)only[go_sem,ints,gd_i];refine hN _ ?_;try clear hN N
   refine AW.ret ?_;simp-dsimp-implicitDefEqProofs (disch:=omega)only[go_sem];exact bt (tf_f (fun e=>h3 (by rw[e]))).symm
  try simp only[cn]at h3
  refine AW.skip ?_;simp only[thn,blk];refine hN4 _ ?_;try clear hN4 N4
  refine AW.regionL envOk ?_;simp-dsimp-implicitDefEqProofs (disch:=omega)only[go_sem,ints,gd_i];refine⟨k+1,?_,fun _ _ h=>h,?_,?_⟩
  ·simp(disch:=omega) [wks,wkA,sl,w64,ints,rows,cubes,ints,gd_i,w64]<;>omega
  ·exact⟨by omega,take_ext 0 hl (by omega) he h3⟩
  first|omega|(simp only;omega)
 try simp only[cn]at h2
 refine AW.exit ?_;simp only[thn,blk,if_true];refine hN2 _ ?_;try clear hN2 N2
 refine AW.sr envOk (fun N hN=>?_);simp-dsimp-implicitDefEqProofs (disch:=omega)only[go_sem,ints,gd_i];refine hN _ ?_;try clear hN N
 refine AW.ret ?_;simp-dsimp-implicitDefEqProofs (disch:=omega)only[go_sem];rw[show k=a.length by omega,List.take_length,hl,List.take_length]at he
 exact bt (tf_t he).symm
theorem slices_Equal_int64_int64_ok (a b:List Int) (ha:a.length≤1099511627776) (hb:b.length≤1099511627776):ACp Tryz.prog 100 [ints a,ints b] (.b (tf (a=b))):=by
 refine ACp.intro' envOk Tryz.func100 rfl (by kernel_rfl) Tryz.ntmps100 Tryz.results100 (.b _) (fun nx cX=>?_)
 refine AW.sr envOk (fun N hN=>?_);simp-dsimp-implicitDefEqProofs (disch:=omega)only[go_sem,ints,gd_i];refine hN _ ?_;try clear hN N
 refine AW.seq (fun N1 hN1=>?_);refine AW.sr envOk (fun N hN=>?_);simp-dsimp-implicitDefEqProofs (disch:=omega)only[go_sem,ints,gd_i];refine hN _ ?_;try clear hN N
 refine AW.cond rfl (fun h1=>?_) (fun h1=>?_)
 ·try simp only[cn]at h1
  refine AW.sr envOk (fun N hN=>?_);simp-dsimp-implicitDefEqProofs (disch:=omega)only[go_sem,ints,gd_i];refine hN _ ?_;try clear hN N
  refine AW.ret ?_;simp-dsimp-implicitDefEqProofs (disch:=omega)only[go_sem];exact bt (tf_f (fun e=>h1 (by rw[e]))).symm
 try simp only[cn]at h1
 have hl:a.length=b.length:=by omega
 refine AW.skip ?_;simp only[thn,blk];refine hN1 _ ?_;try clear hN1 N1
 refine AW.seq (fun N2 hN2=>?_);refine AW.sr envOk (fun N hN=>?_);simp-dsimp-implicitDefEqProofs (disch:=omega)only[go_sem,ints,gd_i];refine hN _ ?_;try clear hN N
 refine AW.block ?_;refine AW.loopN (α:=Nat) (fun x=>sl 26 [(0,ints a),(1,ints b),(12,.i .i64 a.length),(13,.i .i64 x)]) (fun _=>noH) (fun x m=>x≤a.length∧a.take x=b.take x) (fun x=>a.length-x) (0) ?_ ?_ (fun _ _ h=>h) ?_
 ·exact⟨by omega,rfl⟩
 ·simp(disch:=omega) [wks,wkA,sl,w64,ints,rows,cubes,ints,gd_i,w64]<;>omega
 skip
 rintro k m ⟨hk,he⟩
 simp-dsimp-implicitDefEqProofs (disch:=omega)only[go_sem];refine AW.sr envOk (fun N hN=>?_);simp-dsimp-implicitDefEqProofs (disch:=omega)only[go_sem,ints,gd_i];refine hN _ ?_;try clear hN N
 refine AW.seq (fun N3 hN3=>?_);refine AW.cond rfl (fun h2=>?_) (fun h2=>?_)
 ·try simp only[cn]at h2
  refine AW.skip ?_;simp only[thn,blk];refine hN3 _ ?_;try clear hN3 N3
  refine AW.seq (fun N4 hN4=>?_);refine AW.block ?_;refine AW.sr envOk (fun N hN=>?_);simp-dsimp-implicitDefEqProofs (disch:=omega)only[go_sem,ints,gd_i];refine hN _ ?_;try clear hN N
  refine AW.seq (fun N hN=>?_);refine AW.drawL envOk (by kernel_rfl) 9 (by kernel_rfl) ?_
  simp-dsimp-implicitDefEqProofs (disch:=omega)only[hr_nil,hr_one,hr_if,List.take_succ_cons,List.take_zero,List.drop_succ_cons,List.drop_zero,List.take_nil,List.drop_nil,go_sem,undef,ints,gd_i,w64];refine hN _ ?_;try clear hN N
  refine AW.cond rfl (fun h3=>?_) (fun h3=>?_)
  ·try simp only[cn]at h3
   refine AW.sr envOk (fun N hN=>?_);simp-dsimp-implicitDefEqProofs (disch:=omega)only[go_sem,ints,gd_i];refine hN _ ?_;try clear hN N
   refine AW.ret ?_;simp-dsimp-implicitDefEqProofs (disch:=omega)only[go_sem];exact bt (tf_f (fun e=>h3 (by rw[e]))).symm
  try simp only[cn]at h3
  refine AW.skip ?_;simp only[thn,blk];refine hN4 _ ?_;try clear hN4 N4
  refine AW.regionL envOk ?_;simp-dsimp-implicitDefEqProofs (disch:=omega)only[go_sem,ints,gd_i];refine⟨k+1,?_,fun _ _ h=>h,?_,?_⟩
  ·simp(disch:=omega) [wks,wkA,sl,w64,ints,rows,cubes,ints,gd_i,w64]<;>omega
  ·exact⟨by omega,take_ext 0 hl (by omega) he h3⟩
  first|omega|(simp only;omega)
 try simp only[cn]at h2
 refine AW.exit ?_;simp only[thn,blk,if_true];refine hN2 _ ?_;try clear hN2 N2
 refine AW.sr envOk (fun N hN=>?_);simp-dsimp-implicitDefEqProofs (disch:=omega)only[go_sem,ints,gd_i];refine hN _ ?_;try clear hN N
 refine AW.ret ?_;simp-dsimp-implicitDefEqProofs (disch:=omega)only[go_sem];rw[show k=a.length by omega,List.take_length,hl,List.take_length]at he
 exact bt (tf_t he).symm
open Nat (reduceAdd reduceSub reduceGT reduceEqDiff reduceMul)
theorem NR.ts {xs:List AV} (h:∀x∈xs,NR x):NR (.t xs):= .t _ (fun k x hk=>h x (List.mem_of_getElem? hk))
open Nat (reduceAdd reduceSub reduceGT reduceEqDiff reduceMul)
theorem o_ints (a:List Int):one (ints a)=true:=rfl
theorem o_rows (a:List (List Int)):one (rows a)=true:=rfl
theorem o_cubes (a:List (List (List Int))):one (cubes a)=true:=rfl
theorem k_ints (a:List Int):okA (ints a)=true:=rfl
theorem k_rows (a:List (List Int)):okA (rows a)=true:=rfl
theorem k_cubes (a:List (List (List Int))):okA (cubes a)=true:=rfl
theorem c_ints (a:List Int):cellsA (ints a)=[ints a]:=rfl
theorem c_rows (a:List (List Int)):cellsA (rows a)=[rows a]:=rfl
theorem c_cubes (a:List (List (List Int))):cellsA (cubes a)=[cubes a]:=rfl
attribute [go_sem] o_ints o_rows o_cubes k_ints k_rows k_cubes c_ints c_rows c_cubes Bool.true_and ne_eq not_true_eq_false not_false_eq_true or_false false_or or_self
theorem ints_nr (a:List Int):NR (ints a):=by
  unfold Go.Proofs.YtghmeeifjeafmaaGreat.ints
  exact .v _ _ (by intro k x hk;obtain⟨y,_,rfl⟩:=List.mem_map.1 (List.mem_of_getElem? hk);exact .i _ _)
theorem Own.pair {a b:Nat} {H:HP} {r X:AV} {ids:List Nat} {k:IntKind} {e:Int} (h:Own a b H r X ids):∃ids,Own a b H (.t [r,.i k e]) (.t [X,.i k e]) ids:=by
  refine⟨ids++([]++[]),.t _ _ _ (.cons _ _ _ _ _ _ h.1 (.cons _ _ _ _ _ _ (.leaf _ (.i _ _) (.i _ _)) .nil)),?_,?_⟩
  · simpa using h.2.1
  simpa using h.2.2
theorem Vw.rws {H:HP} {id:Nat} {xs:List (List Int)} {n:Nat} (hn:n=xs.length) (h:H id=some (xs.map Go.Proofs.YtghmeeifjeafmaaGreat.ints)):Vw H (.h id 0 n) (rows xs):=by
  subst hn
  unfold rows
  exact .h id 0 xs.length _ _ h (by simp) (by simp) (fun k x y hx hy=>by rw[Nat.zero_add,hy]at hx;cases hx;exact .refl _)
open Nat (reduceAdd reduceSub reduceGT reduceEqDiff reduceMul)
theorem Ow.ints_inv {H:HP} {r:AV} {a:List Int} {ids:List Nat} (h:Ow H r (Go.Proofs.YtghmeeifjeafmaaGreat.ints a) ids):(a=[]∧(r= .nl∨r= .v 0 []))∨∃id,r= .h id 0 a.length∧id∈ids∧H id=some (ivs a.length (fun j=>a.getD j 0)):=by
  unfold Go.Proofs.YtghmeeifjeafmaaGreat.ints at h
  generalize hX:AV.v a.length (a.map (AV.i .i64))=X at h
  cases h with
  | leaf _ hf hn=>
    subst hX
    cases a with
    |nil=>exact .inl ⟨rfl,.inr rfl⟩
    |cons x xs=>cases hf
  | nl=>
    injection hX with h1 h2
    cases a with
    |nil=>exact .inl ⟨rfl,.inl rfl⟩
    |cons x xs=>simp at h1
  | h id cs ts ids' h1 h2=>
    injection hX with e1 e2
    subst e2
    have h3:cs=a.map (AV.i .i64):=by
      apply List.ext_getElem?
      intro k
      by_cases hk:k<cs.length
      · obtain⟨y,is,g1,g2,_⟩:=h2.get k cs[k] (List.getElem?_eq_getElem hk)
        rw[List.getElem?_eq_getElem hk,g1]
        simp only[List.getElem?_map,Option.map_eq_some_iff]at g1
        obtain⟨z,_,rfl⟩:=g1
        generalize cs[k]=x at g2
        cases g2
        rfl
      rw[List.getElem?_eq_none (Nat.le_of_not_lt hk),List.getElem?_eq_none (by rw[h2.len];omega)]
    refine .inr ⟨id,by rw[e1],by simp,?_⟩
    rw[h1,h3,map_ivs]
  |q id cs ts ids' h1 h2=>cases hX
  |g cs ts ids' h2=>cases hX
  |t cs ts ids' h2=>cases hX
theorem Ow.pair_inv {H:HP} {r X:AV} {k:IntKind} {e:Int} {ids:List Nat} (h:Ow H r (.t [X,.i k e]) ids):∃r1,r= .t [r1,.i k e]∧Ow H r1 X ids:=by
  generalize hX:AV.t [X,AV.i k e]=Y at h
  cases h with
  | leaf _ hf hn=>
    subst hX
    cases hf with|t _ hf=>cases hn with|t _ hn=>exact⟨X,rfl,.leaf _ (hf 0 _ rfl) (hn 0 _ rfl)⟩
  |nl=>cases hX
  |h id cs ts ids' h1 h2=>cases hX
  |q id cs ts ids' h1 h2=>cases hX
  |g cs ts ids' h2=>cases hX
  | t cs ts ids' h2=>
    cases hX
    cases h2 with|cons x0 _ xs _ i0 j0 g1 g2=>cases g2 with|cons x1 _ xs _ i1 j1 g3 g4=>
      cases g4
      cases g3 with|leaf _ _ _=>exact⟨x0,rfl,by simpa using g1⟩
theorem one_ow {H:HP} {r:AV} {n:Nat} {ts:List AV} {ids:List Nat} (h:Ow H r (.v n ts) ids):one r=true:=h.slice.2.1
open Nat (reduceAdd reduceSub reduceGT reduceEqDiff reduceMul)
theorem take_snoc_getD {α:Type} {xs:List α} {d:α} {i:Nat} (h:i<xs.length):xs.take (i+1)=xs.take i++[xs.getD i d]:=by
  rw[List.take_add_one];simp[h]
end Go.Proofs.YtghmeeifjeafmaaGreat
