import Derived.Test.YtghmeeifjeafmaaGreatZ11
import Derived.Test.YtghmeeifjeafmaaGreatZ12
set_option linter.unusedVariables false
set_option linter.unusedSimpArgs false
namespace Go.Proofs.YtghmeeifjeafmaaGreat
open Nat (reduceAdd reduceSub reduceGT reduceEqDiff reduceMul)
def wdN (e:List Int):Nat→List Int
  |0=>[]
  |k+1=>wdN e k++List.replicate (e.getD k 0).toNat ((k:Int)+1)
def invW (w:List Int):List Int:=(w.map fun x=> -x).reverse
theorem wdN_len {e:List Int} (h:∀k,k<e.length→e.getD k 0≤1000):∀k,k≤e.length→(wdN e k).length≤1000*k:=by
  intro k
  induction k with
  |zero=>intro _;simp[wdN]
  | succ k ih=>
    intro hk
    have h1:=ih (by omega)
    have h2:=h k (by omega)
    rw[wdN,List.length_append,List.length_replicate]
    omega
theorem invW_len {w:List Int}:(invW w).length=w.length:=by simp[invW]
theorem invW_take {w:List Int} {d:Nat} (h:d<w.length):(invW w).take (d+1)=(invW w).take d++[-(w.getD (w.length-1-d) 0)]:=by
  rw[List.take_succ_eq_append_getElem (by rw[invW_len];exact h)]
  congr 2
  simp[invW,List.getElem_reverse]
  rw[List.getElem?_eq_getElem (by omega)]
  rfl
theorem rep_next {j:Nat} {a:Int}:List.replicate (j+1) a=List.replicate j a++[a]:=List.replicate_succ'
theorem Vw.ivl {H:HP} {id n:Nat} {K:List Int} (h:H id=some (K.map (AV.i .i64))) (hn:n=K.length):Vw H (.h id 0 n) (ints K):=by
  subst hn
  exact Vw.fr h (by simp)
theorem spec_l06Invert_ok (w:List Int) (hw:w.length≤1048576) (hv:∀k,k<w.length→-1048576≤w.getD k 0∧w.getD k 0≤1048576):ACp Tryz.prog 101 [ints w] (ints (invW w)):=by
 refine ACp.introV envOk Tryz.func101 rfl (by kernel_rfl) Tryz.ntmps101 Tryz.results101 ((ints_nr _)) (fun nx cX=>?_)
 refine AW.sr envOk (fun N hN=>?_);simp-dsimp-implicitDefEqProofs (disch:=omega)only[go_sem,ints,gd_i];refine hN _ ?_;try clear hN N
 refine AW.sr envOk (fun N hN=>?_);simp-dsimp-implicitDefEqProofs (disch:=omega)only[go_sem,ints,gd_i];refine hN _ ?_;try clear hN N
 refine AW.seq (fun N1 hN1=>?_);refine AW.sr envOk (fun N hN=>?_);simp-dsimp-implicitDefEqProofs (disch:=omega)only[go_sem,ints,gd_i];refine hN _ ?_;try clear hN N
 refine AW.block ?_;refine AW.loopN (α:=Nat×Nat×List Int) (fun x=>sl 22 [(0,ints w),(3,.h x.2.1 0 x.2.2.length),(4,.i .i64 ((w.length:Int)-1-x.1))]) (fun x=>upd noH x.2.1 (some (x.2.2.map (.i .i64)))) (fun x m=>(x.1≤w.length∧x.2.1<m)∧x.2.2=(invW w).take x.1) (fun x=>w.length-x.1) ((0,nx+1,[])) ?_ ?_ (by intro d cs hd;simp only[upd,noH,List.map_nil]at hd ⊢;grind) ?_
 ·exact⟨⟨by omega,by first|omega|(simp only;omega)|(dsimp only;omega)⟩,by simp⟩
 ·simp(disch:=omega) [wks,wkA,sl,w64,ints,rows,cubes,ints,w64,gd_i]<;>omega
 skip
 rintro⟨k,id,K⟩ m ⟨⟨hk,hid⟩,hK⟩
 dsimp only at hk hid hK ⊢
 have hKl:K.length=k:=by rw[hK,List.length_take,invW_len];omega
 refine AW.seq (fun N2 hN2=>?_);refine AW.sr envOk (fun N hN=>?_);simp-dsimp-implicitDefEqProofs (disch:=omega)only[go_sem,ints,gd_i];refine hN _ ?_;try clear hN N
 refine AW.cond rfl (fun h1=>?_) (fun h1=>?_)
 ·try simp only[cn]at h1
  have e1:((w.length:Int)-1-k).toNat=w.length-1-k:=by omega
  have hb:=hv (w.length-1-k) (by omega)
  have ht:=invW_take (w:=w) (d:=k) (by omega)
  refine AW.skip ?_;simp only[thn,blk];refine hN2 _ ?_;try clear hN2 N2
  refine AW.seq (fun N3 hN3=>?_);refine AW.block ?_;refine AW.regionL envOk ?_;simp-dsimp-implicitDefEqProofs (disch:=omega)only[go_sem,ints,gd_i,e1];refine hN3 _ ?_;try clear hN3 N3
  refine AW.regionL envOk ?_;simp-dsimp-implicitDefEqProofs (disch:=omega)only[go_sem,ints,gd_i];refine⟨(k+1,m+2+7,K++[-(w.getD (w.length-1-k) 0)]),?_,by intro d cs hd;simp only[upd,noH,tk_map,List.map_append,List.map_cons,List.map_nil,Int.zero_sub]at hd ⊢;grind,?_,?_⟩
  ·simp(disch:=omega) [wks,wkA,sl,w64,ints,e1]<;>omega
  ·exact⟨⟨by omega,by first|omega|(simp only;omega)|(dsimp only;omega)⟩,by simp only[];rw[ht,hK]⟩
  first|omega|(simp only;omega)
 try simp only[cn]at h1
 refine AW.exit ?_;simp only[thn,blk,if_true];refine hN1 _ ?_;try clear hN1 N1
 refine AW.sr envOk (fun N hN=>?_);simp-dsimp-implicitDefEqProofs (disch:=omega)only[go_sem,ints,gd_i];refine hN _ ?_;try clear hN N
 refine AW.ret ?_;simp-dsimp-implicitDefEqProofs (disch:=omega)only[go_sem];have hfin:K=invW w:=by rw[hK,show k=w.length by omega,←invW_len,List.take_length]
 rw[hfin]
 exact Vw.ivl (upd_same _ _ _) rfl
theorem spec_l07Word_ok (e:List Int) (he:e.length≤1000) (hv:∀k,k<e.length→0≤e.getD k 0∧e.getD k 0≤1000):ACp Tryz.prog 102 [ints e] (ints (wdN e e.length)):=by
 have hwl:=wdN_len (fun k hk=>(hv k hk).2)
 refine ACp.introV envOk Tryz.func102 rfl (by kernel_rfl) Tryz.ntmps102 Tryz.results102 ((ints_nr _)) (fun nx cX=>?_)
 refine AW.sr envOk (fun N hN=>?_);simp-dsimp-implicitDefEqProofs (disch:=omega)only[go_sem,ints,gd_i];refine hN _ ?_;try clear hN N
 refine AW.sr envOk (fun N hN=>?_);simp-dsimp-implicitDefEqProofs (disch:=omega)only[go_sem,ints,gd_i];refine hN _ ?_;try clear hN N
 refine AW.seq (fun N1 hN1=>?_);refine AW.sr envOk (fun N hN=>?_);simp-dsimp-implicitDefEqProofs (disch:=omega)only[go_sem,ints,gd_i];refine hN _ ?_;try clear hN N
 refine AW.block ?_;refine AW.loopN (α:=Nat×Nat×List Int) (fun x=>sl 27 [(0,ints e),(3,.h x.2.1 0 x.2.2.length),(4,.i .i64 x.1)]) (fun x=>upd noH x.2.1 (some (x.2.2.map (.i .i64)))) (fun x m=>(x.1≤e.length∧x.2.1<m)∧x.2.2=wdN e x.1) (fun x=>e.length-x.1) ((0,nx+1,[])) ?_ ?_ (by intro d cs hd;simp only[upd,noH,List.map_nil]at hd ⊢;grind) ?_
 ·exact⟨⟨by omega,by first|omega|(simp only;omega)|(dsimp only;omega)⟩,rfl⟩
 ·simp(disch:=omega) [wks,wkA,sl,w64,ints,rows,cubes,ints,w64,gd_i]<;>omega
 skip
 rintro⟨k,id,K⟩ m ⟨⟨hk,hid⟩,hK⟩
 dsimp only at hk hid hK ⊢
 refine AW.seq (fun N2 hN2=>?_);refine AW.sr envOk (fun N hN=>?_);simp-dsimp-implicitDefEqProofs (disch:=omega)only[go_sem,ints,gd_i];refine hN _ ?_;try clear hN N
 refine AW.cond rfl (fun h1=>?_) (fun h1=>?_)
 ·try simp only[cn]at h1
  refine AW.skip ?_;simp only[thn,blk];refine hN2 _ ?_;try clear hN2 N2
  refine AW.seq (fun N3 hN3=>?_);refine AW.block ?_;refine AW.sr envOk (fun N hN=>?_);simp-dsimp-implicitDefEqProofs (disch:=omega)only[go_sem,ints,gd_i];refine hN _ ?_;try clear hN N
  refine AW.block ?_;refine AW.loopN (α:=Nat×Nat×List Int) (fun x=>sl 27 [(0,ints e),(3,.h x.2.1 0 x.2.2.length),(4,.i .i64 k),(5,.i .i64 x.1)]) (fun x=>upd noH x.2.1 (some (x.2.2.map (.i .i64)))) (fun x m=>(x.1≤(e.getD k 0).toNat∧x.2.1<m)∧x.2.2=K++List.replicate x.1 ((k:Int)+1)) (fun x=>(e.getD k 0).toNat-x.1) ((0,id,K)) ?_ ?_ (by exact Le.refl _) ?_
  ·exact⟨⟨by omega,by first|omega|(simp only;omega)|(dsimp only;omega)⟩,by simp⟩
  ·simp(disch:=omega) [wks,wkA,sl,w64,ints,rows,cubes,ints,w64,gd_i]<;>omega
  skip
  rintro⟨j,id2,K2⟩ m2 ⟨⟨hj,hid2⟩,hK2⟩
  have hvk:=hv k (by omega)
  dsimp only at hj hid2 hK2 ⊢
  have hKl:K2.length≤1001000:=by have:=hwl k hk;rw[hK2,hK,List.length_append,List.length_replicate];omega
  refine AW.seq (fun N4 hN4=>?_);refine AW.sr envOk (fun N hN=>?_);simp-dsimp-implicitDefEqProofs (disch:=omega)only[go_sem,ints,gd_i];refine hN _ ?_;try clear hN N
  refine AW.cond rfl (fun h2=>?_) (fun h2=>?_)
  ·try simp only[cn]at h2
   refine AW.skip ?_;simp only[thn,blk];refine hN4 _ ?_;try clear hN4 N4
   refine AW.seq (fun N5 hN5=>?_);refine AW.block ?_;refine AW.regionL envOk ?_;simp-dsimp-implicitDefEqProofs (disch:=omega)only[go_sem,ints,gd_i];refine hN5 _ ?_;try clear hN5 N5
   refine AW.regionL envOk ?_;simp-dsimp-implicitDefEqProofs (disch:=omega)only[go_sem,ints,gd_i];refine⟨(j+1,m2+5+5,K2++[(k:Int)+1]),?_,by intro d cs hd;simp only[upd,noH,tk_map,List.map_append,List.map_cons,List.map_nil]at hd ⊢;grind,?_,?_⟩
   ·simp(disch:=omega) [wks,wkA,sl,w64,ints,rows,cubes,ints,w64,gd_i]<;>omega
   ·exact⟨⟨by omega,by first|omega|(simp only;omega)|(dsimp only;omega)⟩,by simp only[];rw[rep_next,hK2,List.append_assoc]⟩
   first|omega|(simp only;omega)
  try simp only[cn]at h2
  refine AW.exit ?_;simp only[thn,blk,if_true];refine hN3 _ ?_;try clear hN3 N3
  refine AW.regionL envOk ?_;simp-dsimp-implicitDefEqProofs (disch:=omega)only[go_sem,ints,gd_i];have hj':j=(e.getD k 0).toNat:=by omega
  refine⟨(k+1,id2,K2),?_,fun _ _ h=>h,?_,?_⟩
  ·simp(disch:=omega) [wks,wkA,sl,w64,ints,rows,cubes,ints,w64,gd_i]<;>omega
  ·exact⟨⟨by omega,by first|omega|(simp only;omega)|(dsimp only;omega)⟩,by simp only[];rw[wdN,hK2,hK,hj']⟩
  first|omega|(simp only;omega)
 try simp only[cn]at h1
 refine AW.exit ?_;simp only[thn,blk,if_true];refine hN1 _ ?_;try clear hN1 N1
 refine AW.sr envOk (fun N hN=>?_);simp-dsimp-implicitDefEqProofs (disch:=omega)only[go_sem,ints,gd_i];refine hN _ ?_;try clear hN N
 refine AW.ret ?_;simp-dsimp-implicitDefEqProofs (disch:=omega)only[go_sem];have hfin:K=wdN e e.length:=by rw[hK,show k=e.length by omega]
 rw[←hfin]
 exact Vw.ivl (upd_same _ _ _) rfl
theorem Vw.oAi {o:Option Nat} {K:List Int} (h0:o=none→K=[]):Vw (oH noH o (K.map (AV.i .i64))) (Go.Proofs.YtghmeeifjeafmaaGreat.oA o K.length) (ints K):=by
  cases o with
  | none=>
    rw[h0 rfl]
    exact .nl
  |some id=>exact Vw.ivl (upd_same _ _ _) rfl
theorem impl_normalWord_ok (e:List Int) (he:e.length≤1000) (hv:∀k,k<e.length→0≤e.getD k 0∧e.getD k 0≤1000):ACp Tryz.prog 69 [ints e] (ints (wdN e e.length)):=by
 have hwl:=wdN_len (fun k hk=>(hv k hk).2)
 refine ACp.introV envOk Tryz.func69 rfl (by kernel_rfl) Tryz.ntmps69 Tryz.results69 ((ints_nr _)) (fun nx cX=>?_)
 refine AW.sr envOk (fun N hN=>?_);simp-dsimp-implicitDefEqProofs (disch:=omega)only[go_sem,ints,gd_i];refine hN _ ?_;try clear hN N
 refine AW.sr envOk (fun N hN=>?_);simp-dsimp-implicitDefEqProofs (disch:=omega)only[go_sem,ints,gd_i];refine hN _ ?_;try clear hN N
 refine AW.seq (fun N1 hN1=>?_);refine AW.sr envOk (fun N hN=>?_);simp-dsimp-implicitDefEqProofs (disch:=omega)only[go_sem,ints,gd_i];refine hN _ ?_;try clear hN N
 refine AW.block ?_;refine AW.loopN (α:=Nat×Option Nat×List Int) (fun x=>sl 24 [(3,oA x.2.1 x.2.2.length),(6,ints e),(7,.i .i64 e.length),(8,.i .i64 x.1)]) (fun x=>oH noH x.2.1 (x.2.2.map (.i .i64))) (fun x m=>(x.1≤e.length∧(x.2.1=none→x.2.2=[]))∧(∀id,x.2.1=some id→id<m)∧x.2.2=wdN e x.1) (fun x=>e.length-x.1) ((0,none,[])) ?_ ?_ (by exact Le.refl _) ?_
 ·exact⟨⟨by omega,fun _=>rfl⟩,fun id hid=>(by cases hid),rfl⟩
 ·simp[wks,wkA,sl,ints,oA]
 skip
 rintro⟨k,o,K⟩ m ⟨⟨hk,ho⟩,hid,hK⟩
 dsimp only at hk hid hK ho ⊢
 refine AW.sr envOk (fun N hN=>?_);simp-dsimp-implicitDefEqProofs (disch:=omega)only[go_sem,ints,gd_i];refine hN _ ?_;try clear hN N
 refine AW.seq (fun N2 hN2=>?_);refine AW.cond rfl (fun h1=>?_) (fun h1=>?_)
 ·try simp only[cn]at h1
  refine AW.skip ?_;simp only[thn,blk];refine hN2 _ ?_;try clear hN2 N2
  refine AW.seq (fun N3 hN3=>?_);refine AW.block ?_;refine AW.sr envOk (fun N hN=>?_);simp-dsimp-implicitDefEqProofs (disch:=omega)only[go_sem,ints,gd_i];refine hN _ ?_;try clear hN N
  refine AW.sr envOk (fun N hN=>?_);simp-dsimp-implicitDefEqProofs (disch:=omega)only[go_sem,ints,gd_i];refine hN _ ?_;try clear hN N
  refine AW.block ?_;refine AW.loopN (α:=Nat×Option Nat×List Int) (fun x=>sl 24 [(3,oA x.2.1 x.2.2.length),(4,.i .i64 k),(6,ints e),(7,.i .i64 e.length),(8,.i .i64 k),(13,.i .i64 (e.getD k 0)),(14,.i .i64 x.1)]) (fun x=>oH noH x.2.1 (x.2.2.map (.i .i64))) (fun x m=>(x.1≤(e.getD k 0).toNat∧(x.2.1=none→x.2.2=[]))∧(∀id,x.2.1=some id→id<m)∧x.2.2=K++List.replicate x.1 ((k:Int)+1)) (fun x=>(e.getD k 0).toNat-x.1) ((0,o,K)) ?_ ?_ (by exact Le.refl _) ?_
  ·exact⟨⟨by omega,ho⟩,fun id h=>(by have:=hid id h;first|omega|(simp only;omega)|(dsimp only;omega)),by simp⟩
  ·simp(disch:=omega) [wks,wkA,sl,w64,ints,rows,cubes,ints,w64,gd_i]<;>omega
  skip
  rintro⟨j,(_|id2),K2⟩ m2 ⟨⟨hj,ho2⟩,hid2,hK2⟩
  ·skip
   have hvk:=hv k (by omega)
   dsimp only[oA,oH]at hj hid2 hK2 ho2 ⊢
   have hnil:=ho2 rfl
   subst hnil
   refine AW.sr envOk (fun N hN=>?_);simp-dsimp-implicitDefEqProofs (disch:=omega)only[go_sem,ints,gd_i];refine hN _ ?_;try clear hN N
   refine AW.seq (fun N4 hN4=>?_);refine AW.cond rfl (fun h2=>?_) (fun h2=>?_)
   ·try simp only[cn]at h2
    refine AW.skip ?_;simp only[thn,blk];refine hN4 _ ?_;try clear hN4 N4
    refine AW.seq (fun N5 hN5=>?_);refine AW.block ?_;refine AW.regionL envOk ?_;simp-dsimp-implicitDefEqProofs (disch:=omega)only[go_sem,ints,gd_i];refine hN5 _ ?_;try clear hN5 N5
    refine AW.regionL envOk ?_;simp-dsimp-implicitDefEqProofs (disch:=omega)only[go_sem,ints,gd_i];refine⟨(j+1,some (m2+1+4),[(k:Int)+1]),?_,(by intro d cs hd;simp only[oH,upd,noH,List.map_cons,List.map_nil]at hd ⊢;grind),?_,?_⟩
    ·simp(disch:=omega) [wks,wkA,sl,w64,ints,oA]
    ·exact⟨⟨by omega,fun h=>by cases h⟩,fun id h=>(by cases h;first|omega|(simp only;omega)|(dsimp only;omega)),by (try simp only[]);rw[rep_next,←List.append_assoc,←hK2];rfl⟩
    first|omega|(simp only;omega)
   try simp only[cn]at h2
   refine AW.exit ?_;simp only[thn,blk,if_true];refine hN3 _ ?_;try clear hN3 N3
   refine AW.regionL envOk ?_;simp-dsimp-implicitDefEqProofs (disch:=omega)only[go_sem,ints,gd_i];have hj':j=(e.getD k 0).toNat:=by omega
   refine⟨(k+1,none,[]),?_,fun _ _ h=>h,?_,?_⟩
   ·simp(disch:=omega) [wks,wkA,sl,w64,ints,oA]
   ·exact⟨⟨by omega,fun _=>rfl⟩,fun id h=>(by cases h),by (try simp only[]);rw[wdN,hK2,hK,hj']⟩
   first|omega|(simp only;omega)
  skip
  have hvk:=hv k (by omega)
  dsimp only[oA,oH]at hj hid2 hK2 ho2 ⊢
  have hKl:K2.length≤1001000:=by have:=hwl k hk;rw[hK2,hK,List.length_append,List.length_replicate];omega
  have hid3:=hid2 id2 rfl
  refine AW.sr envOk (fun N hN=>?_);simp-dsimp-implicitDefEqProofs (disch:=omega)only[go_sem,ints,gd_i];refine hN _ ?_;try clear hN N
  refine AW.seq (fun N6 hN6=>?_);refine AW.cond rfl (fun h3=>?_) (fun h3=>?_)
  ·try simp only[cn]at h3
   refine AW.skip ?_;simp only[thn,blk];refine hN6 _ ?_;try clear hN6 N6
   refine AW.seq (fun N7 hN7=>?_);refine AW.block ?_;refine AW.regionL envOk ?_;simp-dsimp-implicitDefEqProofs (disch:=omega)only[go_sem,ints,gd_i];refine hN7 _ ?_;try clear hN7 N7
   refine AW.regionL envOk ?_;simp-dsimp-implicitDefEqProofs (disch:=omega)only[go_sem,ints,gd_i];refine⟨(j+1,some (m2+1+4),K2++[(k:Int)+1]),?_,(by intro d cs hd;simp only[oH,upd,noH,tk_map,List.map_append,List.map_cons,List.map_nil]at hd ⊢;grind),?_,?_⟩
   ·simp(disch:=omega) [wks,wkA,sl,w64,ints,oA]
   ·exact⟨⟨by omega,fun h=>by cases h⟩,fun id h=>(by cases h;first|omega|(simp only;omega)|(dsimp only;omega)),by (try simp only[]);rw[rep_next,←List.append_assoc,←hK2]⟩
   first|omega|(simp only;omega)
  try simp only[cn]at h3
  refine AW.exit ?_;simp only[thn,blk,if_true];refine hN3 _ ?_;try clear hN3 N3
  refine AW.regionL envOk ?_;simp-dsimp-implicitDefEqProofs (disch:=omega)only[go_sem,ints,gd_i];have hj':j=(e.getD k 0).toNat:=by omega
  refine⟨(k+1,some id2,K2),?_,fun _ _ h=>h,?_,?_⟩
  ·simp(disch:=omega) [wks,wkA,sl,w64,ints,oA]
  ·exact⟨⟨by omega,fun h=>by cases h⟩,fun id h=>(by cases h;first|omega|(simp only;omega)|(dsimp only;omega)),by (try simp only[]);rw[wdN,hK2,hK,hj']⟩
  first|omega|(simp only;omega)
 try simp only[cn]at h1
 refine AW.exit ?_;simp only[thn,blk,if_true];refine hN1 _ ?_;try clear hN1 N1
 refine AW.sr envOk (fun N hN=>?_);simp-dsimp-implicitDefEqProofs (disch:=omega)only[go_sem,ints,gd_i];refine hN _ ?_;try clear hN N
 refine AW.ret ?_;simp-dsimp-implicitDefEqProofs (disch:=omega)only[go_sem];have hfin:K=wdN e e.length:=by rw[hK,show k=e.length by omega]
 rw[←hfin]
 exact Vw.oAi ho
section
variable {P:Program} {Γ:TEnv}
inductive Tr
  |nil
  |br (j:Nat) (sub next:Tr)
def Tr.isNil:Tr→Bool
  | .nil=>true
  | .br _ _ _=>false
def inCh:Tr→Nat→Bool
  | .nil,_=>false
  | .br j _ next,i=>j==i||inCh next i
def allIn (ops:List Oper) (t:Tr) (rem:List Nat):Bool:=(rem.all fun i=>(rem.any fun k=>k !=i && wt ops (cls ops []) k i)||inCh t i)&&(!rem.isEmpty||t.isNil)
def chainOk (ops:List Oper):Tr→List Nat→Bool
  | .nil,_=>true
  | .br j sub next,rem=>allIn ops sub (rem.erase j)&& chainOk ops sub (rem.erase j)&& chainOk ops next rem
def topOk (ops:List Oper) (t:Tr) (rem:List Nat):Bool:=allIn ops t rem && chainOk ops t rem
theorem topOk_nil {ops:List Oper} {t:Tr} (h:topOk ops t []=true):t= .nil:=by
  cases t with
  |nil=>rfl
  |br j sub next=>simp[topOk,allIn,Tr.isNil]at h
theorem topOk_in {ops:List Oper} {t:Tr} {rem:List Nat} (h:topOk ops t rem=true) {i:Nat} (hi:i∈rem) (hn:(rem.any fun k=>k !=i && wt ops (cls ops []) k i)=false):inCh t i=true:=by
  simp only[topOk,allIn,Bool.and_eq_true]at h
  have:=List.all_eq_true.1 h.1.1 i hi
  rw[hn]at this
  simpa using this
theorem topOk_ch {ops:List Oper} {t:Tr} {rem:List Nat} (h:topOk ops t rem=true):chainOk ops t rem=true:=by
  simp only[topOk,Bool.and_eq_true]at h
  exact h.2
def opAt:List Oper→Nat→(Oper→Prop)→Prop
  |[],_,_=>False
  |o::_,0,k=>k o
  |_::l,n+1,k=>opAt l n k
theorem opAt_get:∀{ops:List Oper} {i:Nat} {o:Oper} {k:Oper→Prop},ops[i]? =some o→opAt ops i k→k o:=by
  intro ops
  induction ops with
  |nil=>intro i o k h;simp at h
  | cons a l ih=>
    intro i o k h hk
    cases i with
    |zero=>simp at h;subst h;exact hk
    |succ i=>exact ih (by simpa using h) hk
def trun (Γ:TEnv) (P:Program) (base:Nat) (ops:List Oper):Tr→St→(St→Prop)→Prop
  | .nil,s,K=>K s
  | .br j sub .nil,s,K=>opAt ops j fun o=>aop Γ P o.dst o.op (base+j) s fun s'=>trun Γ P base ops sub s' K
  | .br j sub (.br k a b),s,K=>(opAt ops j fun o=>aop Γ P o.dst o.op (base+j) s fun s'=>trun Γ P base ops sub s' K)∧trun Γ P base ops (.br k a b) s K
theorem tr_get {ops:List Oper} {base i:Nat} {rem:List Nat} {s:St} {K:St→Prop}:∀{t:Tr},inCh t i=true→chainOk ops t rem=true→trun Γ P base ops t s K→
    ∃sub,topOk ops sub (rem.erase i)=true∧opAt ops i fun o=>aop Γ P o.dst o.op (base+i) s fun s'=>trun Γ P base ops sub s' K:=by
  intro t
  induction t with
  |nil=>intro h;cases h
  | br j sub next ih1 ih2=>
    intro h1 h2 h3
    simp only[chainOk,Bool.and_eq_true]at h2
    have h4:opAt ops j fun o=>aop Γ P o.dst o.op (base+j) s fun s'=>trun Γ P base ops sub s' K:=by
      cases next with
      |nil=>simpa only[trun]using h3
      |br k a b=>simp only[trun]at h3;exact h3.1
    by_cases e:j=i
    · subst e
      exact⟨sub,by simp only[topOk,Bool.and_eq_true];exact h2.1,h4⟩
    have h5:inCh next i=true:=by
      simp only[inCh,Bool.or_eq_true,beq_iff_eq]at h1
      exact h1.resolve_left e
    cases next with
    |nil=>cases h5
    |br k a b=>simp only[trun]at h3;exact ih2 h5 h2.2 h3.2
structure DokG (ops:List Oper) (m:List Bool):Prop where
  lt:∀j o,ops[j]? =some o→∀e∈o.after.toList,Region.binds .any e=true→e.on<j
  g:∀(j:Nat) (o:Oper),ops[j]? =some o→o.guard=none
  fl:∀j o,ops[j]? =some o→m.getD j false=true→lays o.op=false∧(∃d,o.dst=some d∧∀i o',ops[i]? =some o'→i≠j→o'.dst≠some d)∧
    ∀u,u∈opT o→∀i o',ops[i]? =some o'→o'.dst=some u→(m.getD i false=true∧i<j∧Waits ops i j)∨(m.getD i false=false∧Waits ops j i)
  sp:∀j o,ops[j]? =some o→m.getD j false=false→∀u,u∈opT o→∀i o',ops[i]? =some o'→m.getD i false=true→o'.dst=some u→Waits ops i j
def others (ops:List Oper) (m:List Bool):List Nat:=(List.range ops.length).filter fun i=> !m.getD i false
def dokT (ops:List Oper) (m:List Bool) (t:Tr):Bool:=
  let cl:=cls ops []
  (ops.zipIdx.all fun (o,j)=>o.after.toList.all fun e=> !Region.binds .any e||e.on<j)&&
  (ops.all fun o=>o.guard.isNone)&&
  (ops.zipIdx.all fun (o,j)=>
    if m.getD j false=true then
      !lays o.op &&
      (match o.dst with|some d=>ops.zipIdx.all fun (o',i)=>i==j|| !(o'.dst==some d)|none=>false)&&
      ((opT o).all fun u=>ops.zipIdx.all fun (o',i)=> !(o'.dst==some u)||(if m.getD i false=true then decide (i<j)&& wt ops cl i j else wt ops cl j i))
    else
      ((opT o).all fun u=>ops.zipIdx.all fun (o',i)=> !(m.getD i false && o'.dst==some u)||wt ops cl i j))&&
  topOk ops t (others ops m)
theorem dokT_parts {ops:List Oper} {m:List Bool} {t:Tr} (h:dokT ops m t=true):DokG ops m∧topOk ops t (others ops m)=true:=by
  unfold dokT at h
  simp only[Bool.and_eq_true]at h
  obtain⟨⟨⟨h1,h2⟩,h3⟩,hto⟩:=h
  refine⟨⟨?_,?_,?_,?_⟩,hto⟩
  · intro j o ho e he hb
    have:=List.all_eq_true.1 (zip_all h1 ho) e he
    simpa[hb]using this
  · intro j o ho
    have:=List.all_eq_true.1 h2 o (List.mem_of_getElem? ho)
    simpa using this
  · intro j o ho hm
    have h4:=zip_all h3 ho
    simp only[hm,if_true,Bool.and_eq_true]at h4
    obtain⟨⟨h5,h6⟩,h7⟩:=h4
    refine⟨by simpa using h5,?_,?_⟩
    · cases hd:o.dst with
      |none=>rw[hd]at h6;cases h6
      | some d=>
        rw[hd]at h6
        refine⟨d,rfl,fun i o' hi hij he=>?_⟩
        have:=zip_all h6 hi
        simp[hij,he]at this
    intro u hu i o' hi he
    have h8:=zip_all (List.all_eq_true.1 h7 u hu) hi
    simp only[he,beq_self_eq_true,Bool.not_true,Bool.false_or]at h8
    split at h8
    · rename_i hmi
      simp only[Bool.and_eq_true,decide_eq_true_eq]at h8
      exact .inl ⟨hmi,h8.1,wt_waits h8.2⟩
    rename_i hmi
    exact .inr ⟨by simpa using hmi,wt_waits h8⟩
  intro j o ho hm
  have h4:=zip_all h3 ho
  simp only[hm,Bool.false_eq_true,if_false]at h4
  intro u hu i o' hi hmi he
  have h8:=zip_all (List.all_eq_true.1 h4 u hu) hi
  simp only[hmi,he,beq_self_eq_true,Bool.and_self,Bool.not_true,Bool.false_or]at h8
  exact wt_waits h8
end
section
variable {P:Program} {Γ:TEnv} {cX:Ctx}
theorem flt_anyT (hG:GOk P Γ) {ops:List Oper} {m:List Bool} (hd:DokG ops m) {base:Nat} {T:Nat→List AV} {res:Nat→AV} {Q:Exit→Act→World→Prop} {K':St→Prop}
    (hT:∀j o,ops[j]? =some o→m.getD j false=true→T (j+1)=putA (T j) o.dst (res j)∧∃d,QOk P o (evo (T j)) noH (base+j) (res j) d∧(lays o.op=false→d=none))
    (hS:∀j,j<ops.length→m.getD j false=false→T (j+1)=T j) (hn0:cX.nx0≤base)
    (hQ:∀s' L' a' w',K' s'→Cn cX s' L' a' w'→Q .normal a' w'):
    ∀ (fuel:Nat) (tr:Tr) (rem:List Nat) (listed:Array Bool) (s:St) (t':List AV) (L:LM) (a:Act) (w:World),unl ops.length listed≤fuel→listed.size=ops.length→Shut ops listed→
      (∀i,i<ops.length→m.getD i false=false→(listed.getD i true=false↔i∈rem))→rem.Nodup→(∀i∈rem,i<ops.length∧m.getD i false=false)→topOk ops tr rem=true→
      trun Γ P base ops tr s K'→
      (∀u,(∀(j:Nat) (o:Oper),ops[j]? =some o→m.getD j false=false→listed.getD j true=true→o.dst≠some u)→s.t[u]? =(T ops.length)[u]?)→s.t.length=(T ops.length).length→t'.length=s.t.length→
      (∀u,(∀(j:Nat) (o:Oper),ops[j]? =some o→m.getD j false=true→listed.getD j true=false→o.dst≠some u)→t'[u]? =s.t[u]?)→
      Cn cX ⟨t',s.H,s.nx⟩ L a w→(∀i,i<ops.length→listed.getD i true=false→L (base+i)=none)→base+ops.length≤s.nx→
      wpA cX.rd P .any ops.toArray Q fuel listed a w:=by
  have hT':=fun j o ho hm=>(hT j o ho hm).1
  have Tlen:=T_len hT' hS
  have Tkeep:=T_keep hT' hS
  have evT:∀{o:Oper} {t1 t2:List AV},(∀u∈opT o,t1[u]? =t2[u]?)→∀x∈o.op.operands,evo t1 x=evo t2 x:=by
    intro o t1 t2 h x hx
    cases x with
    | tmp u=>
      have:=h u (by unfold opT;exact List.mem_filterMap.2 ⟨.tmp u,by simpa using hx,rfl⟩)
      simp only[evo,List.getD_eq_getElem?_getD,this]
    |_=>simp[evo]
  intro fuel
  induction fuel with
  | zero=>
    intro tr rem listed s t' L a w hf hsz hs hq1 hq2 hq3 hok h ha hl1 hl2 hmk hc hfr hnx
    have hall:∀i,i<ops.length→listed.getD i true=true:=by
      intro i hi
      cases hb:listed.getD i true with
      |true=>rfl
      |false=>have:=unl_set hb hi;omega
    obtain rfl:rem=[]:=List.eq_nil_iff_forall_not_mem.2 fun i hi=>by
      have:=(hq1 i (hq3 i hi).1 (hq3 i hi).2).2 hi
      rw[hall i (hq3 i hi).1]at this;cases this
    obtain rfl:=topOk_nil hok
    have ht:t'=s.t:=List.ext_getElem? fun u=>hmk u fun j o ho _ hb=>by
      rw[hall j (List.getElem?_eq_some_iff.1 ho).1]at hb;cases hb
    subst ht
    refine⟨?_,hQ _ _ _ _ h hc⟩
    rw[List.eq_nil_iff_forall_not_mem]
    intro i hi'
    obtain⟨h1,h2,_⟩:=ready_iff.1 hi'
    rw[hall i h1]at h2;cases h2
  | succ fuel ih=>
    intro tr rem listed s t' L a w hf hsz hs hq1 hq2 hq3 hok h ha hl1 hl2 hmk hc hfr hnx
    refine⟨fun h0=>?_,?_⟩
    · have hall:∀i,i<ops.length→listed.getD i true=true:=by
        intro i hi
        cases hb:listed.getD i true with
        |true=>rfl
        |false=>exact absurd h0 (ready_ex hd.lt hsz i hi hb)
      obtain rfl:rem=[]:=List.eq_nil_iff_forall_not_mem.2 fun i hi=>by
        have:=(hq1 i (hq3 i hi).1 (hq3 i hi).2).2 hi
        rw[hall i (hq3 i hi).1]at this;cases this
      obtain rfl:=topOk_nil hok
      have ht:t'=s.t:=List.ext_getElem? fun u=>hmk u fun j o ho _ hb=>by
        rw[hall j (List.getElem?_eq_some_iff.1 ho).1]at hb;cases hb
      subst ht
      exact hQ _ _ _ _ h hc
    intro i hi'
    obtain⟨h1,h2,_⟩:=ready_iff.1 hi'
    have ho:ops[i]? =some ops[i]:=List.getElem?_eq_getElem h1
    have hgd:=hd.g i _ ho
    have hset:∀k,(listed.setIfInBounds i true).getD k true=false↔k≠i∧listed.getD k true=false:=by
      intro k
      rw[get_set h2]
      by_cases e:k=i
      · simp[e]
      simp[e]
    have hun:=unl_set h2 h1
    unfold wpO
    simp only[List.getElem?_toArray,ho]
    rw[if_pos (by simp[Region.wanted,hgd])]
    refine .inl ?_
    cases hm:m.getD i false with
    | true=>
      obtain⟨f1,⟨d,f2,f3⟩,f4⟩:=hd.fl i _ ho hm
      obtain⟨g1,dd,g2,g3⟩:=hT i _ ho hm
      have g3:=g3 f1
      subst g3
      have hev:∀u∈opT ops[i],(T i)[u]? =t'[u]? :=by
        intro u hu
        have hw:=f4 u hu
        have e1:t'[u]? =s.t[u]? :=hmk u fun j o hj hmj hlj he=>by
          rcases hw j o hj he with ⟨_,_,hwt⟩|⟨hmf,_⟩
          · rw[ready_waits hs hi' hwt]at hlj;cases hlj
          rw[hmf]at hmj;cases hmj
        have e2:s.t[u]? =(T ops.length)[u]? :=ha u fun j o hj hmj hlj he=>by
          rcases hw j o hj he with ⟨k1,_,_⟩|⟨_,hwt⟩
          · rw[k1]at hmj;cases hmj
          rw[hs i j hwt hlj]at h2;cases h2
        have e3:=Tkeep u i (ops.length-i) (by omega) (fun g o k1 k2 hg hmg he=>by
          rcases hw g o hg he with ⟨_,k3,_⟩|⟨k3,_⟩
          · omega
          rw[hmg]at k3;cases k3)
        rw[show i+(ops.length-i)=ops.length by omega]at e3
        rw[e1,e2,e3]
      have hop:=(g2 s.H (fun _ _ h=>by cases h)).ev (evT hev)
      refine op_step hop hc (hfr i h1 h2) (by omega) (by omega) ?_
      rintro r H' L' a' w' ⟨rfl,rfl⟩ hL hc'
      refine ih tr rem _ s (putA t' ops[i].dst (res i)) L' a' w' (by omega) (by simpa using hsz) (hs.set hi') (fun k hk hmk2=>?_) hq2 hq3 hok h (fun u hu=>ha u fun j o hj hmj hlj=>hu j o hj hmj (by rw[get_set h2];split<;>first|rfl|exact hlj)) hl1 (by rw[putA_len];exact hl2) (fun u hu=>?_) hc' (fun k hk hlk=>?_) hnx
      · rw[←hq1 k hk hmk2,hset k]
        exact⟨fun h=>h.2,fun h=>⟨fun e=>(by rw[e,hm]at hmk2;cases hmk2),h⟩⟩
      · by_cases e:u=d
        · subst e
          have e2:s.t[u]? =(T ops.length)[u]? :=ha u fun j o hj hmj _ he=>f3 j o hj (fun e=>by rw[e,hm]at hmj;cases hmj) he
          have e3:=Tkeep u (i+1) (ops.length-(i+1)) (by omega) (fun g o k1 k2 hg hmg he=>f3 g o hg (by omega) he)
          rw[show i+1+(ops.length-(i+1))=ops.length by omega]at e3
          rw[e2,e3,g1,f2]
          exact putA_eq (by rw[hl2,hl1,Tlen _ (Nat.le_refl _),Tlen i (by omega)]) (.inl rfl)
        rw[putA_ne (by rw[f2];intro e2;cases e2;exact e rfl)]
        refine hmk u fun j o hj hmj hlj he=>?_
        by_cases ej:j=i
        · subst ej;rw[ho]at hj;cases hj;rw[f2]at he;cases he;exact e rfl
        exact hu j o hj hmj ((hset j).2 ⟨ej,hlj⟩) he
      obtain⟨k1,k2⟩:=(hset k).1 hlk
      rw[hL _ (by omega)];exact hfr k hk k2
    | false=>
      have f2:=hd.sp i _ ho hm
      have hir:i∈rem:=(hq1 i h1 hm).1 h2
      have hnr:(rem.any fun k=>k !=i && wt ops (cls ops []) k i)=false:=by
        cases hb:rem.any fun k=>k !=i && wt ops (cls ops []) k i with
        |false=>rfl
        | true=>
          obtain⟨k,hk,hk2⟩:=List.any_eq_true.1 hb
          simp only[Bool.and_eq_true]at hk2
          have h5:=ready_waits hs hi' (wt_waits hk2.2)
          rw[(hq1 k (hq3 k hk).1 (hq3 k hk).2).2 hk]at h5;cases h5
      obtain⟨sub,hsub,h3⟩:=tr_get (topOk_in hok hir hnr) (topOk_ch hok) h
      have h4:=opAt_get ho h3
      have hev:∀u∈opT ops[i],s.t[u]? =t'[u]? :=by
        intro u hu
        exact(hmk u fun j o hj hmj hlj he=>by
          rw[ready_waits hs hi' (f2 u hu j o hj hmj he)]at hlj;cases hlj).symm
      refine aop_soundM hG h4 (evT hev) hc (hfr i h1 h2) (by omega) (by omega) ?_
      intro r H' nx' L' a' w' hk hnx' hL hc'
      refine ih sub (rem.erase i) _ ⟨putA s.t ops[i].dst r,H',nx'⟩ (putA t' ops[i].dst r) L' a' w' (by omega) (by simpa using hsz) (hs.set hi') (fun k hk hmk2=>?_) (hq2.erase i) (fun k hk=>hq3 k (List.mem_of_mem_erase hk)) hsub hk (fun u hu=>?_) (by simp only[putA_len];exact hl1) (by simp only[putA_len];exact hl2) (fun u hu=>?_) hc' (fun k hk hlk=>?_) (by simp only;omega)
      · rw[hset k,hq1 k hk hmk2,hq2.mem_erase_iff]
      · simp only
        rw[putA_ne (hu i _ ho hm (by rw[get_set h2,if_pos rfl]))]
        exact ha u fun j o hj hmj hlj=>hu j o hj hmj (by rw[get_set h2];split<;>first|rfl|exact hlj)
      · simp only
        refine putA_eq hl2 (.inr (hmk u fun j o hj hmj hlj he=>?_))
        exact hu j o hj hmj ((hset j).2 ⟨fun e=>(by rw[e,hm]at hmj;cases hmj),hlj⟩) he
      obtain⟨k1,k2⟩:=(hset k).1 hlk
      rw[hL _ (by omega) (by omega)];exact hfr k hk k2
end
section
variable {P:Program} {Γ:TEnv}
theorem AW.drawT {cX:Ctx} (hG:GOk P Γ) (hmx:P.follows .mixedOrders=true) {n:Nat} {ops:List Oper} {s:St} {K:Exit→St→Prop} (m:List Bool) (tr:Tr) (hdk:dokT ops m tr=true)
    (h:hrunF Γ P s.nx m ops 0 s.t fun t=>trun Γ P s.nx ops tr ⟨t,s.H,s.nx+ops.length⟩ (K .normal)):AW cX P (.region n ops.toArray true) s K:=by
  intro L a w Q hc hQ
  obtain⟨hd,hto⟩:=dokT_parts hdk
  refine wpA_region hmx ?_
  obtain⟨T,res,h1,h2,h3,h4⟩:=hrunF_head hG (ops:=ops) (m:=m) ops m 0 s.t (by simp) (by simp) h
  have hdr:Cn cX ⟨s.t,s.H,s.nx+ops.length⟩ L a {w with drawn:=w.drawn+1}:=
    ⟨hc.df.same rfl,hc.sz,fun k x hk=>(hc.sl k x hk).drew,hc.sr.drew,fun i hi=>hc.fr i (by simp only at hi;omega),by have:=hc.nx;simp only;omega,hc.lo,hc.st.trans (Step.drew _ _ _)⟩
  have:=flt_anyT (Q:=Q) hG hd (base:=s.nx) (T:=T) (res:=res) (fun j o ho hm=>h3 j o (Nat.zero_le _) ho hm) (fun j hj hm=>h4 j (Nat.zero_le _) hj hm) hc.nx (fun s' L' a' w' hk hc'=>hQ _ _ _ _ _ hk hc')
    ops.length tr (others ops m) (Array.replicate ops.length false) ⟨T ops.length,s.H,s.nx+ops.length⟩ s.t L a {w with drawn:=w.drawn+1} (by
      unfold unl
      exact Nat.le_trans (List.length_filter_le _ _) (by simp)) (by simp) (by
      intro i j hw hj
      have:=hw.len
      simp[Array.getD_eq_getD_getElem?,this]at hj) (fun i hi hm=>by
      rw[List.getD_eq_getElem?_getD]at hm;simp[Array.getD_eq_getD_getElem?,hi,others,hm]) (List.nodup_range.filter _) (fun i hi=>by
      have:=List.mem_filter.1 hi
      exact⟨List.mem_range.1 this.1,by simpa using this.2⟩) hto h2 (fun u _=>rfl) rfl ?_ ?_ hdr (fun i hi _=>hc.fr _ (by omega)) (by simp only;omega)
  · simpa using this
  · simp only
    rw[T_len (fun j o ho hm=>(h3 j o (Nat.zero_le _) ho hm).1) (fun j hj hm=>h4 j (Nat.zero_le _) hj hm) _ (Nat.le_refl _),h1]
  intro u hu
  have:=T_keep (fun j o ho hm=>(h3 j o (Nat.zero_le _) ho hm).1) (fun j hj hm=>h4 j (Nat.zero_le _) hj hm) u 0 ops.length (by omega) (fun g o _ hg ho hm=>hu g o ho hm (by
    have:=(List.getElem?_eq_some_iff.1 ho).1
    simp[Array.getD_eq_getD_getElem?,this]))
  rw[Nat.zero_add]at this
  simp only
  rw[this,h1]
@[congr] theorem trun_cg {base:Nat} {ops:List Oper} {t:Tr} {s s':St} {K:St→Prop} (h:s=s'):trun Γ P base ops t s K=trun Γ P base ops t s' K:=by rw[h]
@[congr] theorem opAt_cg {ops:List Oper} {i:Nat} {k:Oper→Prop}:opAt ops i k=opAt ops i k:=rfl
theorem tr_n {base:Nat} {ops:List Oper} {s:St} {K:St→Prop}:trun Γ P base ops .nil s K=K s:=by rw[trun]
theorem tr_1 {base j:Nat} {ops:List Oper} {sub:Tr} {s:St} {K:St→Prop}:trun Γ P base ops (.br j sub .nil) s K=opAt ops j fun o=>aop Γ P o.dst o.op (base+j) s fun s'=>trun Γ P base ops sub s' K:=by rw[trun]
theorem tr_2 {base j k:Nat} {ops:List Oper} {sub a b:Tr} {s:St} {K:St→Prop}:trun Γ P base ops (.br j sub (.br k a b)) s K=((opAt ops j fun o=>aop Γ P o.dst o.op (base+j) s fun s'=>trun Γ P base ops sub s' K)∧trun Γ P base ops (.br k a b) s K):=by rw[trun]
theorem at_s {o:Oper} {l:List Oper} {n:Nat} {k:Oper→Prop}:opAt (o::l) (n+1) k=opAt l n k:=by rw[opAt]
theorem at_0 {dst:Option Nat} {op:Op} {ty:TypeId} {pos:String} {after:Array Edge} {g:Option (Nat×Bool)} {l:List Oper} {id:Nat} {s:St} {K:St→Prop}:opAt (⟨dst,op,ty,pos,after,g⟩::l) 0 (fun o=>aop Γ P o.dst o.op id s K)=aop Γ P dst op id s K:=by rw[opAt]
end
attribute [go_sem ↓] tr_n tr_1 tr_2 at_s at_0
end Go.Proofs.YtghmeeifjeafmaaGreat
