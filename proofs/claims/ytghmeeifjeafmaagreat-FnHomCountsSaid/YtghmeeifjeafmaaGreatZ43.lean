import Derived.Test.YtghmeeifjeafmaaGreatZ13
import Derived.Test.YtghmeeifjeafmaaGreatZ42
set_option linter.unusedVariables false
set_option linter.unusedSimpArgs false
namespace Go.Proofs.YtghmeeifjeafmaaGreat
open Nat (reduceAdd reduceSub reduceGT reduceEqDiff reduceMul)
def dgL (d:Int):List UInt8:=(dg d).data.toList
def wtL (w:List Int):List UInt8:=(wtx w).data.toList
theorem dg_L (d:Int):dg d=ofL (dgL d):=(ofL_to _).symm
theorem wt_L (w:List Int):wtx w=ofL (wtL w):=(ofL_to _).symm
theorem ofL_app (a b:List UInt8):ofL a++ofL b=ofL (a++b):=by
  apply toL_inj
  rw[ByteArray.data_append]
  simp[ofL]
def zC (a:List Int):Bool:=a.all (· ==0)
theorem zC_iff {a:List Int}:zC a=true↔zeros a:=by
  rw[zC,List.all_eq_true]
  constructor
  · intro h j hj
    have:=h (a.getD j 0) (by simp[hj])
    simpa using this
  intro h x hx
  obtain⟨j,hj,rfl⟩:=List.mem_iff_getElem.1 hx
  have:=h j hj
  simpa[hj]using this
def txO (os:List Int):Nat→List UInt8
  |0=>[]
  |k+1=>(if k>0 then txO os k++[32]else txO os k)++dgL (os.getD k 0)
def txR (i:Nat) (by':List UInt8) (e:List Int):List UInt8:=[59,32]++letC i++[94]++by'++[61]++wtL (wdN e e.length)
def txP (os:List Int) (pw:List (List Int)):Nat→List UInt8
  |0=>txO os os.length
  |k+1=>if zC (pw.getD k [])=true then txP os pw k else txP os pw k++txR k (dgL (os.getD k 0)) (pw.getD k [])
def txJ (n i:Nat) (c:List (List Int)) (acc:List UInt8):Nat→List UInt8
  |0=>acc
  |t+1=>if c.getD t []=unL n (i+1+t)then txJ n i c acc t else txJ n i c acc t++txR (i+1+t) (letC i) (c.getD t [])
def txI (os:List Int) (pw:List (List Int)) (cj:List (List (List Int))):Nat→List UInt8
  |0=>txP os pw os.length
  |i+1=>txJ os.length i (cj.getD i []) (txI os pw cj i) (os.length-(i+1))
def txC (os:List Int) (pw:List (List Int)) (cj:List (List (List Int))):List UInt8:=if os.length=0 then [49]else txI os pw cj os.length
theorem dgL_len {d:Int} (h0:0≤d) (h1:d<10):(dgL d).length=1:=by
  have:=dg_size h0 h1
  rw[dg_L,ofL_sz]at this;exact this
theorem wtL_len (w:List Int):(wtL w).length≤w.length+1:=by
  have:=wtx_size w
  rw[wt_L,ofL_sz]at this;exact this
theorem letC_len (i:Nat):(letC i).length=1:=rfl
theorem cat_b {n m:Nat} (h:n+m≤9000000):((n:Int)+(m:Int)≤9223372036854775807)=True:=eq_true (by omega)
theorem txR_len {i:Nat} {b:List UInt8} {e:List Int} (hb:b.length=1) (he:e.length≤6) (hv:∀k,k<e.length→e.getD k 0≤1000):(txR i b e).length≤7000:=by
  have h1:=wdN_len hv e.length (Nat.le_refl _)
  have h2:=wtL_len (wdN e e.length)
  simp only[txR,List.length_append,letC_len,hb,List.length_cons,List.length_nil]
  omega
theorem txO_len {os:List Int} (h:∀k,k<os.length→0≤os.getD k 0∧os.getD k 0<10):∀k,k≤os.length→(txO os k).length≤2*k:=by
  intro k
  induction k with
  |zero=>intro _;simp[txO]
  | succ k ih=>
    intro hk
    have h1:=ih (by omega)
    have h2:=dgL_len (h k (by omega)).1 (h k (by omega)).2
    rw[txO,List.length_append]
    split
    · rw[List.length_append,List.length_singleton];omega
    omega
theorem txP_len {os:List Int} {pw:List (List Int)} (hn:os.length≤6) (h:∀k,k<os.length→0≤os.getD k 0∧os.getD k 0<10) (hp:∀k,k<os.length→(pw.getD k []).length≤6∧∀j,j<(pw.getD k []).length→(pw.getD k []).getD j 0≤1000):∀k,k≤os.length→(txP os pw k).length≤12+7000*k:=by
  intro k
  induction k with
  |zero=>intro _;have:=txO_len h os.length (Nat.le_refl _);rw[txP];omega
  | succ k ih=>
    intro hk
    have h1:=ih (by omega)
    have h2:=txR_len (i:=k) (b:=dgL (os.getD k 0)) (e:=pw.getD k []) (dgL_len (h k (by omega)).1 (h k (by omega)).2) (hp k (by omega)).1 (hp k (by omega)).2
    rw[txP]
    split
    · omega
    rw[List.length_append];omega
theorem txJ_len {n i:Nat} {c:List (List Int)} {acc:List UInt8} {A:Nat} (ha:acc.length≤A) (hp:∀k,k<c.length→(c.getD k []).length≤6∧∀j,j<(c.getD k []).length→(c.getD k []).getD j 0≤1000):∀k,k≤c.length→(txJ n i c acc k).length≤A+7000*k:=by
  intro k
  induction k with
  |zero=>intro _;rw[txJ];omega
  | succ k ih=>
    intro hk
    have h1:=ih (by omega)
    have h2:=txR_len (i:=i+1+k) (b:=letC i) (e:=c.getD k []) rfl (hp k (by omega)).1 (hp k (by omega)).2
    rw[txJ]
    split
    · omega
    rw[List.length_append];omega
theorem presOk.ent {os:List Int} {pw:List (List Int)} {cj:List (List (List Int))} (h:presOk os pw cj):
    (∀k,k<os.length→0≤os.getD k 0∧os.getD k 0<10)∧(∀i,i<os.length→(pw.getD i []).length=os.length∧∀j,j<(pw.getD i []).length→0≤(pw.getD i []).getD j 0∧(pw.getD i []).getD j 0≤1000)∧
    ∀i,i<os.length→(cj.getD i []).length+1+i=os.length∧∀t,t<(cj.getD i []).length→((cj.getD i []).getD t []).length=os.length∧∀j,j<((cj.getD i []).getD t []).length→0≤((cj.getD i []).getD t []).getD j 0∧((cj.getD i []).getD t []).getD j 0≤1000:=by
  have ho:∀k,k<os.length→0≤os.getD k 0∧os.getD k 0<10:=fun k hk=>by have:=pr4_bd (h.2.1 k hk);omega
  have hx:∀{v:List Int} {z:Int},xpP os v z→v.length=os.length∧∀j,j<v.length→0≤v.getD j 0∧v.getD j 0≤1000:=fun hv=>⟨hv.1,fun j hj=>by
    have h1:=hv.2 j hj
    have h2:=ho j (by have:=hv.1;omega)
    omega⟩
  refine⟨ho,fun i hi=>hx (h.2.2.2 i hi).1,fun i hi=>⟨(h.2.2.2 i hi).2.1,fun t ht=>hx ((h.2.2.2 i hi).2.2 t ht)⟩⟩
theorem cat6 (acc:List UInt8) (i:Nat) (bl:List UInt8) (e:List Int):((((((ofL acc++⟨#[59,32]⟩)++ofL (letC i))++⟨#[94]⟩)++ofL bl)++⟨#[61]⟩)++wtx (wdN e e.length))=ofL (acc++txR i bl e):=by
  rw[show(⟨#[59,32]⟩:ByteArray)=ofL [59,32]from rfl,show(⟨#[94]⟩:ByteArray)=ofL [94]from rfl,show(⟨#[61]⟩:ByteArray)=ofL [61]from rfl,wt_L,ofL_app,ofL_app,ofL_app,ofL_app,ofL_app,ofL_app,txR]
  simp only[List.append_assoc]
theorem spec_l07Unit_u (n j:Nat) (hn:n≤1048576) (hj:j<n):ACp Tryz.prog 149 [.i .i64 n,.i .i64 j] (ints (unL n j)):=(spec_l07Unit_o n j hn hj).pure
set_option maxRecDepth 20000 in
set_option maxHeartbeats 8000000 in
theorem spec_l07Text_ok (os:List Int) (pw:List (List Int)) (cj:List (List (List Int))) (h:presOk os pw cj):ACp Tryz.prog 163 [prs os pw cj] (.s (ofL (txC os pw cj))):=by
 have hn6:=h.1.1
 obtain⟨ho,hp,hc⟩:=h.ent
 have z2:(#[(59:UInt8),32]:Array UInt8).size=2:=rfl
 have z1:(#[(94:UInt8)]:Array UInt8).size=1:=rfl
 have z3:(#[(61:UInt8)]:Array UInt8).size=1:=rfl
 have z4:(#[(32:UInt8)]:Array UInt8).size=1:=rfl
 have hpl:=h.1.2.1
 have hcl:=h.1.2.2
 refine ACp.intro' envOk Tryz.func163 rfl (by kernel_rfl) Tryz.ntmps163 Tryz.results163 (.s _) (fun nx cX=>?_)
 refine AW.sr envOk (fun N hN=>?_);simp-dsimp-implicitDefEqProofs (disch:=omega)only[go_sem,prs,prsP,ints,rows,cubes,gd_i,gd_r,gd_c,cat_b,ofL_sz];refine hN _ ?_;try clear hN N
 refine AW.freezeQ 1 nx _ rfl (upd_same _ _ _) ?_
 simp-dsimp-implicitDefEqProofs (disch:=omega)only[go_sem];refine AW.sr envOk (fun N hN=>?_);simp-dsimp-implicitDefEqProofs (disch:=omega)only[go_sem,prs,prsP,ints,rows,cubes,gd_i,gd_r,gd_c,cat_b,ofL_sz];refine hN _ ?_;try clear hN N
 refine AW.sr envOk (fun N hN=>?_);simp-dsimp-implicitDefEqProofs (disch:=omega)only[go_sem,prs,prsP,ints,rows,cubes,gd_i,gd_r,gd_c,cat_b,ofL_sz];refine hN _ ?_;try clear hN N
 refine AW.seq (fun N1 hN1=>?_);refine AW.sr envOk (fun N hN=>?_);simp-dsimp-implicitDefEqProofs (disch:=omega)only[go_sem,prs,prsP,ints,rows,cubes,gd_i,gd_r,gd_c,cat_b,ofL_sz];refine hN _ ?_;try clear hN N
 refine AW.cond rfl (fun h1=>?_) (fun h1=>?_)
 ·try simp only[cn]at h1
  refine AW.sr envOk (fun N hN=>?_);simp-dsimp-implicitDefEqProofs (disch:=omega)only[go_sem,prs,prsP,ints,rows,cubes,gd_i,gd_r,gd_c,cat_b,ofL_sz];refine hN _ ?_;try clear hN N
  refine AW.ret ?_;simp-dsimp-implicitDefEqProofs (disch:=omega)only[go_sem];rw[txC,if_pos (by omega)];rfl
 try simp only[cn]at h1
 refine AW.skip ?_;simp only[thn,blk];refine hN1 _ ?_;try clear hN1 N1
 refine AW.seq (fun N2 hN2=>?_);refine AW.sr envOk (fun N hN=>?_);simp-dsimp-implicitDefEqProofs (disch:=omega)only[go_sem,prs,prsP,ints,rows,cubes,gd_i,gd_r,gd_c,cat_b,ofL_sz];refine hN _ ?_;try clear hN N
 refine AW.block ?_;refine AW.loopN (α:=Nat) (fun x=>sl 118 [(1,prsP os pw cj),(3,.i .i64 os.length),(4,.s (ofL (txO os x))),(5,.i .i64 x)]) (fun _=>noH) (fun x m=>x≤os.length) (fun x=>os.length-x) (0) ?_ ?_ (Le.del (by simp[noH])) ?_
 ·omega
 ·simp(disch:=omega) [wks,wkA,sl,prsP,ints,rows,cubes,txO];rfl
 skip
 rintro k m hk
 simp-dsimp-implicitDefEqProofs (disch:=omega)only[go_sem];simp only[prsP];have htl:=txO_len ho k hk
 refine AW.seq (fun N3 hN3=>?_);refine AW.sr envOk (fun N hN=>?_);simp-dsimp-implicitDefEqProofs (disch:=omega)only[go_sem,prs,prsP,ints,rows,cubes,gd_i,gd_r,gd_c,cat_b,ofL_sz];refine hN _ ?_;try clear hN N
 refine AW.cond rfl (fun h2=>?_) (fun h2=>?_)
 ·try simp only[cn]at h2
  have hko:=ho k (by omega)
  have hdl:=dg_size hko.1 hko.2
  refine AW.skip ?_;simp only[thn,blk];refine hN3 _ ?_;try clear hN3 N3
  refine AW.seq (fun N4 hN4=>?_);refine AW.block ?_;refine AW.seq (fun N5 hN5=>?_);refine AW.sr envOk (fun N hN=>?_);simp-dsimp-implicitDefEqProofs (disch:=omega)only[go_sem,prs,prsP,ints,rows,cubes,gd_i,gd_r,gd_c,cat_b,ofL_sz];refine hN _ ?_;try clear hN N
  refine AW.cond rfl (fun h3=>?_) (fun h3=>?_)
  ·try simp only[cn]at h3
   have hkp:k>0:=by omega
   have he:(ofL (txO os k)++⟨#[32]⟩)++dg (os.getD k 0)=ofL (txO os (k+1)):=by
    rw[txO,if_pos hkp,dg_L,show(⟨#[32]⟩:ByteArray)=ofL [32]from rfl,ofL_app,ofL_app]
   refine AW.regionL envOk ?_;simp-dsimp-implicitDefEqProofs (disch:=omega)only[go_sem,prs,prsP,ints,rows,cubes,gd_i,gd_r,gd_c,cat_b,ofL_sz];refine hN5 _ ?_;try clear hN5 N5
   refine AW.regionL envOk ?_;simp-dsimp-implicitDefEqProofs (disch:=omega)only[go_sem,prs,prsP,ints,rows,cubes,gd_i,gd_r,gd_c,cat_b,ofL_sz];refine AC.pure (.of (spec_l01Dec_ok (os.getD k 0) hko.1 hko.2)) ?_;try simp-dsimp-implicitDefEqProofs (disch:=omega)only[go_sem,prs,prsP,ints,rows,cubes,gd_i,gd_r,gd_c,cat_b,ofL_sz]
   refine hN4 _ ?_;try clear hN4 N4
   refine AW.regionL envOk ?_;simp-dsimp-implicitDefEqProofs (disch:=omega)only[go_sem,prs,prsP,ints,rows,cubes,gd_i,gd_r,gd_c,cat_b,ofL_sz];simp only[he];refine⟨k+1,?_,fun _ _ h=>h,?_,?_⟩
   ·simp(disch:=omega) [wks,wkA,sl,w64,prsP,ints,rows,cubes]
   ·omega
   first|omega|(simp only;omega)
  try simp only[cn]at h3
  have he:ofL (txO os k)++dg (os.getD k 0)=ofL (txO os (k+1)):=by
   rw[txO,if_neg (by omega),dg_L,ofL_app]
  refine AW.skip ?_;simp only[thn,blk];refine hN5 _ ?_;try clear hN5 N5
  refine AW.regionL envOk ?_;simp-dsimp-implicitDefEqProofs (disch:=omega)only[go_sem,prs,prsP,ints,rows,cubes,gd_i,gd_r,gd_c,cat_b,ofL_sz];refine AC.pure (.of (spec_l01Dec_ok (os.getD k 0) hko.1 hko.2)) ?_;try simp-dsimp-implicitDefEqProofs (disch:=omega)only[go_sem,prs,prsP,ints,rows,cubes,gd_i,gd_r,gd_c,cat_b,ofL_sz]
  refine hN4 _ ?_;try clear hN4 N4
  refine AW.regionL envOk ?_;simp-dsimp-implicitDefEqProofs (disch:=omega)only[go_sem,prs,prsP,ints,rows,cubes,gd_i,gd_r,gd_c,cat_b,ofL_sz];simp only[he];refine⟨k+1,?_,fun _ _ h=>h,?_,?_⟩
  ·simp(disch:=omega) [wks,wkA,sl,w64,prsP,ints,rows,cubes]
  ·omega
  first|omega|(simp only;omega)
 try simp only[cn]at h2
 have hke:k=os.length:=by omega
 subst hke
 refine AW.exit ?_;simp only[thn,blk,if_true];refine hN2 _ ?_;try clear hN2 N2
 refine AW.seq (fun N6 hN6=>?_);refine AW.sr envOk (fun N hN=>?_);simp-dsimp-implicitDefEqProofs (disch:=omega)only[go_sem,prs,prsP,ints,rows,cubes,gd_i,gd_r,gd_c,cat_b,ofL_sz];refine hN _ ?_;try clear hN N
 refine AW.block ?_;refine AW.loopN (α:=Nat) (fun x=>sl 118 [(1,prsP os pw cj),(3,.i .i64 os.length),(4,.s (ofL (txP os pw x))),(6,.i .i64 x)]) (fun _=>noH) (fun x m=>x≤os.length) (fun x=>os.length-x) (0) ?_ ?_ (fun _ _ h=>h) ?_
 ·omega
 ·simp(disch:=omega) [wks,wkA,sl,prsP,ints,rows,cubes,txP]
 skip
 rintro k m hk
 simp-dsimp-implicitDefEqProofs (disch:=omega)only[go_sem];simp only[prsP];have htl:=txP_len hn6 ho (fun k hk=>⟨by have:=hp k hk;omega,fun j hj=>((hp k hk).2 j hj).2⟩) k hk
 refine AW.seq (fun N7 hN7=>?_);refine AW.sr envOk (fun N hN=>?_);simp-dsimp-implicitDefEqProofs (disch:=omega)only[go_sem,prs,prsP,ints,rows,cubes,gd_i,gd_r,gd_c,cat_b,ofL_sz];refine hN _ ?_;try clear hN N
 refine AW.cond rfl (fun h4=>?_) (fun h4=>?_)
 ·try simp only[cn]at h4
  have hpk:=hp k (by omega)
  have hok:=ho k (by omega)
  have hdl:=dg_size hok.1 hok.2
  have hwl:=wdN_len (e:=pw.getD k []) (fun j hj=>(hpk.2 j hj).2) _ (Nat.le_refl _)
  have hwx:=wtx_size (wdN (pw.getD k []) (pw.getD k []).length)
  have hll:=letC_len k
  refine AW.skip ?_;simp only[thn,blk];refine hN7 _ ?_;try clear hN7 N7
  refine AW.seq (fun N8 hN8=>?_);refine AW.block ?_;refine AW.sr envOk (fun N hN=>?_);simp-dsimp-implicitDefEqProofs (disch:=omega)only[go_sem,prs,prsP,ints,rows,cubes,gd_i,gd_r,gd_c,cat_b,ofL_sz];refine AC.pure (.of (spec_l01Zero_ok (pw.getD k []) (by omega))) ?_;try simp-dsimp-implicitDefEqProofs (disch:=omega)only[go_sem,prs,prsP,ints,rows,cubes,gd_i,gd_r,gd_c,cat_b,ofL_sz]
  refine hN _ ?_;try clear hN N
  refine AW.cond rfl (fun h5=>?_) (fun h5=>?_)
  ·try simp only[cn]at h5
   have hz:¬zC (pw.getD k [])=true:=fun e=>by rw[zC_iff]at e;exact h5 e
   have he:=(cat6 (txP os pw k) k (dgL (os.getD k 0)) (pw.getD k [])).trans (show _=ofL (txP os pw (k+1)) by rw[txP,if_neg hz])
   rw[←dg_L]at he
   refine AW.drawL envOk (by kernel_rfl) 23 (by kernel_rfl) ?_
   simp-dsimp-implicitDefEqProofs (disch:=omega)only[hr_nil,hr_one,hr_if,List.take_succ_cons,List.take_zero,List.drop_succ_cons,List.drop_zero,List.take_nil,List.drop_nil,go_sem,undef,prs,prsP,ints,rows,cubes,gd_i,gd_r,gd_c,w64,cat_b,ofL_sz];refine⟨_,.of (spec_l07Letter_ok k (by omega)),?_⟩
   try simp-dsimp-implicitDefEqProofs (disch:=omega)only[go_sem,prs,prsP,ints,rows,cubes,gd_i,gd_r,gd_c,cat_b,ofL_sz]
   refine⟨_,.of (spec_l01Dec_ok (os.getD k 0) hok.1 hok.2),?_⟩
   try simp-dsimp-implicitDefEqProofs (disch:=omega)only[go_sem,prs,prsP,ints,rows,cubes,gd_i,gd_r,gd_c,cat_b,ofL_sz]
   refine⟨_,.of (spec_l07Word_ok (pw.getD k []) (by omega) hpk.2),?_⟩
   try simp-dsimp-implicitDefEqProofs (disch:=omega)only[go_sem,prs,prsP,ints,rows,cubes,gd_i,gd_r,gd_c,cat_b,ofL_sz]
   refine⟨_,.of (spec_l06Text_ok (wdN (pw.getD k []) (pw.getD k []).length) (by omega)),?_⟩
   try simp-dsimp-implicitDefEqProofs (disch:=omega)only[go_sem,prs,prsP,ints,rows,cubes,gd_i,gd_r,gd_c,cat_b,ofL_sz]
   refine hN8 _ ?_;try clear hN8 N8
   refine AW.regionL envOk ?_;simp-dsimp-implicitDefEqProofs (disch:=omega)only[go_sem,prs,prsP,ints,rows,cubes,gd_i,gd_r,gd_c,cat_b,ofL_sz];simp only[he];refine⟨k+1,?_,fun _ _ h=>h,?_,?_⟩
   ·simp(disch:=omega) [wks,wkA,sl,w64,prsP,ints,rows,cubes]
   ·omega
   first|omega|(simp only;omega)
  try simp only[cn]at h5
  have hz:zC (pw.getD k [])=true:=zC_iff.2 (by simpa using h5)
  have he:ofL (txP os pw k)=ofL (txP os pw (k+1)):=by rw[txP,if_pos hz]
  refine AW.skip ?_;simp only[thn,blk];refine hN8 _ ?_;try clear hN8 N8
  refine AW.regionL envOk ?_;simp-dsimp-implicitDefEqProofs (disch:=omega)only[go_sem,prs,prsP,ints,rows,cubes,gd_i,gd_r,gd_c,cat_b,ofL_sz];simp only[he];refine⟨k+1,?_,fun _ _ h=>h,?_,?_⟩
  ·simp(disch:=omega) [wks,wkA,sl,w64,prsP,ints,rows,cubes]
  ·omega
  first|omega|(simp only;omega)
 try simp only[cn]at h4
 have hke:k=os.length:=by omega
 subst hke
 refine AW.exit ?_;simp only[thn,blk,if_true];refine hN6 _ ?_;try clear hN6 N6
 refine AW.seq (fun N9 hN9=>?_);refine AW.sr envOk (fun N hN=>?_);simp-dsimp-implicitDefEqProofs (disch:=omega)only[go_sem,prs,prsP,ints,rows,cubes,gd_i,gd_r,gd_c,cat_b,ofL_sz];refine hN _ ?_;try clear hN N
 refine AW.block ?_;refine AW.loopN (α:=Nat) (fun x=>sl 118 [(1,prsP os pw cj),(3,.i .i64 os.length),(4,.s (ofL (txI os pw cj x))),(7,.i .i64 x)]) (fun _=>noH) (fun x m=>x≤os.length∧(txI os pw cj x).length≤42012+42000*x) (fun x=>os.length-x) (0) ?_ ?_ (fun _ _ h=>h) ?_
 ·exact⟨by omega,by rw[txI];omega⟩
 ·simp(disch:=omega) [wks,wkA,sl,prsP,ints,rows,cubes,txI]
 skip
 rintro i m ⟨hk,hil⟩
 simp-dsimp-implicitDefEqProofs (disch:=omega)only[go_sem];simp only[prsP];refine AW.seq (fun N10 hN10=>?_);refine AW.sr envOk (fun N hN=>?_);simp-dsimp-implicitDefEqProofs (disch:=omega)only[go_sem,prs,prsP,ints,rows,cubes,gd_i,gd_r,gd_c,cat_b,ofL_sz];refine hN _ ?_;try clear hN N
 refine AW.cond rfl (fun h6=>?_) (fun h6=>?_)
 ·try simp only[cn]at h6
  obtain⟨hci,hct⟩:=hc i (by omega)
  refine AW.skip ?_;simp only[thn,blk];refine hN10 _ ?_;try clear hN10 N10
  refine AW.seq (fun N11 hN11=>?_);refine AW.block ?_;refine AW.sr envOk (fun N hN=>?_);simp-dsimp-implicitDefEqProofs (disch:=omega)only[go_sem,prs,prsP,ints,rows,cubes,gd_i,gd_r,gd_c,cat_b,ofL_sz];refine hN _ ?_;try clear hN N
  refine AW.block ?_;refine AW.loopN (α:=Nat) (fun x=>sl 118 [(1,prsP os pw cj),(3,.i .i64 os.length),(4,.s (ofL (txJ os.length i (cj.getD i []) (txI os pw cj i) x))),(7,.i .i64 i),(8,.i .i64 ((i+1+x:Nat):Int))]) (fun _=>noH) (fun x m=>x≤(cj.getD i []).length) (fun x=>(cj.getD i []).length-x) (0) ?_ ?_ (fun _ _ h=>h) ?_
  ·omega
  ·simp(disch:=omega) [wks,wkA,sl,prsP,ints,rows,cubes,txJ,w64]<;>omega
  skip
  rintro t m ht
  simp-dsimp-implicitDefEqProofs (disch:=omega)only[go_sem];simp only[prsP];have htl:=txJ_len (n:=os.length) (i:=i) hil (fun k hk=>⟨by have:=hct k hk;omega,fun j hj=>((hct k hk).2 j hj).2⟩) t ht
  refine AW.seq (fun N12 hN12=>?_);refine AW.sr envOk (fun N hN=>?_);simp-dsimp-implicitDefEqProofs (disch:=omega)only[go_sem,prs,prsP,ints,rows,cubes,gd_i,gd_r,gd_c,cat_b,ofL_sz];refine hN _ ?_;try clear hN N
  refine AW.cond rfl (fun h7=>?_) (fun h7=>?_)
  ·try simp only[cn]at h7
   have ht2:t<(cj.getD i []).length:=by omega
   obtain⟨hel,hev⟩:=hct t ht2
   have hwl:=wdN_len (e:=(cj.getD i []).getD t []) (fun j hj=>(hev j hj).2) _ (Nat.le_refl _)
   have hwx:=wtx_size (wdN ((cj.getD i []).getD t []) ((cj.getD i []).getD t []).length)
   have hll:=letC_len (i+1+t)
   have hll2:=letC_len i
   have e1:(((i+1+t:Nat):Int)-i-1).toNat=t:=by omega
   refine AW.skip ?_;simp only[thn,blk];refine hN12 _ ?_;try clear hN12 N12
   refine AW.seq (fun N13 hN13=>?_);refine AW.block ?_;refine AW.seq (fun N hN=>?_);refine AW.drawL envOk (by kernel_rfl) 16 (by kernel_rfl) ?_
   simp-dsimp-implicitDefEqProofs (disch:=omega)only[hr_nil,hr_one,hr_if,List.take_succ_cons,List.take_zero,List.drop_succ_cons,List.drop_zero,List.take_nil,List.drop_nil,go_sem,undef,prs,prsP,ints,rows,cubes,gd_i,gd_r,gd_c,w64,cat_b,ofL_sz,e1];refine⟨_,.of (spec_l07Unit_u os.length (i+1+t) (by omega) (by omega)),?_⟩
   try simp-dsimp-implicitDefEqProofs (disch:=omega)only[go_sem,prs,prsP,ints,rows,cubes,gd_i,gd_r,gd_c,cat_b,ofL_sz]
   refine⟨_,.of (spec_l01Same_ok ((cj.getD i []).getD t []) (unL os.length (i+1+t)) (by omega) (by rw[unL_len];omega)),?_⟩
   try simp-dsimp-implicitDefEqProofs (disch:=omega)only[go_sem,prs,prsP,ints,rows,cubes,gd_i,gd_r,gd_c,cat_b,ofL_sz]
   refine hN _ ?_;try clear hN N
   refine AW.cond rfl (fun h8=>?_) (fun h8=>?_)
   ·try simp only[cn]at h8
    have he:=(cat6 (txJ os.length i (cj.getD i []) (txI os pw cj i) t) (i+1+t) (letC i) ((cj.getD i []).getD t [])).trans (show _=ofL (txJ os.length i (cj.getD i []) (txI os pw cj i) (t+1)) by rw[txJ,if_neg h8])
    refine AW.drawL envOk (by kernel_rfl) 25 (by kernel_rfl) ?_
    simp-dsimp-implicitDefEqProofs (disch:=omega)only[hr_nil,hr_one,hr_if,List.take_succ_cons,List.take_zero,List.drop_succ_cons,List.drop_zero,List.take_nil,List.drop_nil,go_sem,undef,prs,prsP,ints,rows,cubes,gd_i,gd_r,gd_c,w64,cat_b,ofL_sz,e1];refine⟨_,.of (spec_l07Letter_ok (i+1+t) (by omega)),?_⟩
    try simp-dsimp-implicitDefEqProofs (disch:=omega)only[go_sem,prs,prsP,ints,rows,cubes,gd_i,gd_r,gd_c,cat_b,ofL_sz]
    refine⟨_,.of (spec_l07Letter_ok i (by omega)),?_⟩
    try simp-dsimp-implicitDefEqProofs (disch:=omega)only[go_sem,prs,prsP,ints,rows,cubes,gd_i,gd_r,gd_c,cat_b,ofL_sz]
    refine⟨_,.of (spec_l07Word_ok ((cj.getD i []).getD t []) (by omega) hev),?_⟩
    try simp-dsimp-implicitDefEqProofs (disch:=omega)only[go_sem,prs,prsP,ints,rows,cubes,gd_i,gd_r,gd_c,cat_b,ofL_sz]
    refine⟨_,.of (spec_l06Text_ok (wdN ((cj.getD i []).getD t []) ((cj.getD i []).getD t []).length) (by omega)),?_⟩
    try simp-dsimp-implicitDefEqProofs (disch:=omega)only[go_sem,prs,prsP,ints,rows,cubes,gd_i,gd_r,gd_c,cat_b,ofL_sz]
    refine hN13 _ ?_;try clear hN13 N13
    refine AW.regionL envOk ?_;simp-dsimp-implicitDefEqProofs (disch:=omega)only[go_sem,prs,prsP,ints,rows,cubes,gd_i,gd_r,gd_c,cat_b,ofL_sz];simp only[he];refine⟨t+1,?_,fun _ _ h=>h,?_,?_⟩
    ·simp(disch:=omega) [wks,wkA,sl,w64,prsP,ints,rows,cubes]<;>omega
    ·omega
    first|omega|(simp only;omega)
   try simp only[cn]at h8
   have he:ofL (txJ os.length i (cj.getD i []) (txI os pw cj i) t)=ofL (txJ os.length i (cj.getD i []) (txI os pw cj i) (t+1)):=by rw[txJ,if_pos (by simpa using h8)]
   refine AW.skip ?_;simp only[thn,blk];refine hN13 _ ?_;try clear hN13 N13
   refine AW.regionL envOk ?_;simp-dsimp-implicitDefEqProofs (disch:=omega)only[go_sem,prs,prsP,ints,rows,cubes,gd_i,gd_r,gd_c,cat_b,ofL_sz];simp only[he];refine⟨t+1,?_,fun _ _ h=>h,?_,?_⟩
   ·simp(disch:=omega) [wks,wkA,sl,w64,prsP,ints,rows,cubes]<;>omega
   ·omega
   first|omega|(simp only;omega)
  try simp only[cn]at h7
  have hte:t=os.length-(i+1):=by omega
  have he:ofL (txJ os.length i (cj.getD i []) (txI os pw cj i) t)=ofL (txI os pw cj (i+1)):=by rw[txI,hte]
  have hlt:(txI os pw cj (i+1)).length≤42012+42000*(i+1):=by rw[txI,←hte];omega
  refine AW.exit ?_;simp only[thn,blk,if_true];refine hN11 _ ?_;try clear hN11 N11
  refine AW.regionL envOk ?_;simp-dsimp-implicitDefEqProofs (disch:=omega)only[go_sem,prs,prsP,ints,rows,cubes,gd_i,gd_r,gd_c,cat_b,ofL_sz];simp only[he];refine⟨i+1,?_,fun _ _ h=>h,?_,?_⟩
  ·simp(disch:=omega) [wks,wkA,sl,w64,prsP,ints,rows,cubes]
  ·exact⟨by omega,hlt⟩
  first|omega|(simp only;omega)
 try simp only[cn]at h6
 have hie:i=os.length:=by omega
 refine AW.exit ?_;simp only[thn,blk,if_true];refine hN9 _ ?_;try clear hN9 N9
 refine AW.sr envOk (fun N hN=>?_);simp-dsimp-implicitDefEqProofs (disch:=omega)only[go_sem,prs,prsP,ints,rows,cubes,gd_i,gd_r,gd_c,cat_b,ofL_sz];refine hN _ ?_;try clear hN N
 refine AW.ret ?_;simp-dsimp-implicitDefEqProofs (disch:=omega)only[go_sem];rw[txC,if_neg (by omega),hie]
end Go.Proofs.YtghmeeifjeafmaaGreat
