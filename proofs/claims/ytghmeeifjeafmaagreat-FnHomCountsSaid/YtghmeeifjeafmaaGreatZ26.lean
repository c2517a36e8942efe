import Derived.Test.YtghmeeifjeafmaaGreatZ09
import Derived.Test.YtghmeeifjeafmaaGreatZ17
import Derived.Test.YtghmeeifjeafmaaGreatZ18
import Derived.Test.YtghmeeifjeafmaaGreatZ23
import Derived.Test.YtghmeeifjeafmaaGreatZ25
set_option linter.unusedVariables false
set_option linter.unusedSimpArgs false
namespace Go.Proofs.YtghmeeifjeafmaaGreat
open Nat (reduceAdd reduceSub reduceGT reduceEqDiff reduceMul)
def imX (xs:List (List Int)) (k:Nat):V:=fl (xs.getD k [])
noncomputable def ltV (P:Pc) (xs:List (List Int)) (l:Int):V:=if 0<l then imX xs (lid l)else inv P 0 (imX xs (lid l))
noncomputable def evV (P:Pc) (xs:List (List Int)) (w:List Int):Nat→V
  |0=>z0
  |k+1=>M P 0 (evV P xs w k) (ltV P xs (w.getD k 0))
def hldP (P:Pc) (xs:List (List Int)) (rs:List (List Int)):Prop:=∀i,i<rs.length→evV P xs (rs.getD i []) (rs.getD i []).length=z0
section
variable {os:List Int} {pw:List (List Int)} {cj:List (List (List Int))}
theorem imX_T {xs:List (List Int)} (hx:exsP os xs) {k:Nat} (hk:k<xs.length):T (pc os pw cj) 0 (imX xs k):=(hx k hk).T
theorem imX_vi {xs:List (List Int)} (hx:exsP os xs) {k:Nat} (hk:k<xs.length):AV.v (xs.getD k []).length (List.map (AV.i IntKind.i64) (xs.getD k []))=vi os.length (imX xs k):=ints_vi (hx k hk).1
theorem ltV_T (h:presOk os pw cj) (hc:Con (pc os pw cj) 0) {xs:List (List Int)} (hx:exsP os xs) {l:Int} (hl:lid l<xs.length):T (pc os pw cj) 0 (ltV (pc os pw cj) xs l):=by
  unfold ltV
  split
  · exact imX_T hx hl
  exact(inv_T (con_grp h.val hc) (imX_T hx hl)).1
theorem evV_T (h:presOk os pw cj) (hc:Con (pc os pw cj) 0) {xs:List (List Int)} (hx:exsP os xs) {w:List Int} (hw:wordP xs.length w):∀k,k≤w.length→T (pc os pw cj) 0 (evV (pc os pw cj) xs w k):=by
  intro k
  induction k with
  |zero=>intro _;exact T.zero h.val 0
  | succ k ih=>
    intro hk
    exact M_T h.val (ih (by omega)) (ltV_T h hc hx (hw.get (by omega)).1)
theorem zeros_T {i:Nat} {f:V} (hf:T (pc os pw cj) i f):zeros (vec os.length f)↔f=z0:=by
  constructor
  · intro h
    funext k
    by_cases e:k<os.length
    · have:=h k (by rw[vec_len];exact e)
      rwa [vec_get e]at this
    exact hf.t k (by have:(pc os pw cj).n=os.length:=rfl;omega)
  rintro rfl k hk
  rw[vec_len]at hk
  rw[vec_get hk];rfl
theorem spec_l01Zero_T {i:Nat} {f:V} (hn:os.length≤1048576) (hf:T (pc os pw cj) i f):ACp Tryz.prog 62 [vi os.length f] (.b (tf (f=z0))):=by
  have:=spec_l01Zero_ok (vec os.length f) (by rw[vec_len];omega)
  rw[vi_ints]at this
  rwa [tf_eq (zeros_T hf)]at this
theorem impl_isZero_T {i:Nat} {f:V} (hn:os.length≤1048576) (hf:T (pc os pw cj) i f):ACp Tryz.prog 73 [vi os.length f] (.b (tf (f=z0))):=by
  have:=impl_isZero_ok (vec os.length f) (by rw[vec_len];omega)
  rw[vi_ints]at this
  rwa [tf_eq (zeros_T hf)]at this
end
theorem spec_l10Eval_ok (os:List Int) (pw:List (List Int)) (cj:List (List (List Int))) (h:presOk os pw cj) (hc:Con (pc os pw cj) 0) (xs:List (List Int)) (hx:exsP os xs) (hxl:xs.length≤1000) (w:List Int) (hw:wordP xs.length w):ACp Tryz.prog 63 [prs os pw cj,ints w,rows xs] (vi os.length (evV (pc os pw cj) xs w w.length)):=by
 have hn6:=h.1.1
 have hwl:=hw.1
 refine ACp.intro' envOk Tryz.func63 rfl (by kernel_rfl) Tryz.ntmps63 Tryz.results63 (vi_nr _ _) (fun nx cX=>?_)
 refine AW.sr envOk (fun N hN=>?_);simp-dsimp-implicitDefEqProofs (disch:=omega)only[go_sem,prs,prsP,ints,rows,cubes,gd_i,gd_r,vi];refine hN _ ?_;try clear hN N
 refine AW.freezeQ 3 nx _ rfl (upd_same _ _ _) ?_
 simp-dsimp-implicitDefEqProofs (disch:=omega)only[go_sem];refine AW.sr envOk (fun N hN=>?_);simp-dsimp-implicitDefEqProofs (disch:=omega)only[go_sem,prs,prsP,ints,rows,cubes,gd_i,gd_r,vi];refine AC.pure (.of (spec_l10One_ok os pw cj (by omega))) ?_;try simp-dsimp-implicitDefEqProofs (disch:=omega)only[go_sem,prs,prsP,ints,rows,cubes,gd_i,gd_r,vi]
 refine hN _ ?_;try clear hN N
 refine AW.seq (fun N1 hN1=>?_);refine AW.sr envOk (fun N hN=>?_);simp-dsimp-implicitDefEqProofs (disch:=omega)only[go_sem,prs,prsP,ints,rows,cubes,gd_i,gd_r,vi];refine hN _ ?_;try clear hN N
 refine AW.block ?_;refine AW.loopN (α:=Nat) (fun x=>sl 48 [(1,ints w),(2,rows xs),(3,prsP os pw cj),(7,vi os.length (evV (pc os pw cj) xs w x)),(8,.i .i64 x)]) (fun _=>noH) (fun x m=>x≤w.length) (fun x=>w.length-x) (0) ?_ ?_ (Le.del (by simp[noH])) ?_
 ·omega
 ·simp(disch:=omega) [wks,wkA,sl,prsP,ints,rows,cubes,vi,evV]
 skip
 rintro k m hk
 simp only[vi,prsP];simp-dsimp-implicitDefEqProofs (disch:=omega)only[go_sem];refine AW.seq (fun N2 hN2=>?_);refine AW.sr envOk (fun N hN=>?_);simp-dsimp-implicitDefEqProofs (disch:=omega)only[go_sem,prs,prsP,ints,rows,cubes,gd_i,gd_r,vi];refine hN _ ?_;try clear hN N
 refine AW.cond rfl (fun h1=>?_) (fun h1=>?_)
 ·try simp only[cn]at h1
  obtain⟨q1,q2,q3,q4⟩:=hw.get (k:=k) (by omega)
  have q7:=hw.2 k (by omega)
  have e4:=imX_vi hx q1
  have tx:=imX_T (pw:=pw) (cj:=cj) hx q1
  have tk:=evV_T h hc hx hw k hk
  have te:=evV_T h hc hx hw (k+1) (by omega)
  refine AW.skip ?_;simp only[thn,blk];refine hN2 _ ?_;try clear hN2 N2
  refine AW.seq (fun N3 hN3=>?_);refine AW.block ?_;refine AW.sr envOk (fun N hN=>?_);simp-dsimp-implicitDefEqProofs (disch:=omega)only[go_sem,prs,prsP,ints,rows,cubes,gd_i,gd_r,vi];refine hN _ ?_;try clear hN N
  refine AW.cond rfl (fun h2=>?_) (fun h2=>?_)
  ·try simp only[cn]at h2
   have e1:lab (w.getD k 0)=w.getD k 0:=by unfold lab;rw[if_pos (by omega)]
   have e3:(w.getD k 0-1).toNat=lid (w.getD k 0):=by unfold lid;rw[e1]
   have ek:M (pc os pw cj) 0 (evV (pc os pw cj) xs w k) (imX xs (lid (w.getD k 0)))=evV (pc os pw cj) xs w (k+1):=by rw[evV,ltV,if_pos (by omega)]
   refine AW.drawL envOk (by kernel_rfl) 12 (by kernel_rfl) ?_
   simp-dsimp-implicitDefEqProofs (disch:=omega)only[hr_nil,hr_one,hr_if,List.take_succ_cons,List.take_zero,List.drop_succ_cons,List.drop_zero,List.take_nil,List.drop_nil,go_sem,undef,prs,prsP,ints,rows,cubes,gd_i,gd_r,w64,vi,e3];rw[e4]
   refine⟨_,.of (spec_l08Mul_ok os pw cj h _ _ tk tx),?_⟩
   try simp-dsimp-implicitDefEqProofs (disch:=omega)only[go_sem,prs,prsP,ints,rows,cubes,gd_i,gd_r,vi]
   rw[ek]
   refine hN3 _ ?_;try clear hN3 N3
   refine AW.regionL envOk ?_;simp-dsimp-implicitDefEqProofs (disch:=omega)only[go_sem,prs,prsP,ints,rows,cubes,gd_i,gd_r,vi];refine⟨k+1,?_,fun _ _ h=>h,?_,?_⟩
   ·simp(disch:=omega) [wks,wkA,sl,prsP,w64,ints,rows,cubes,vi]<;>omega
   ·omega
   first|omega|(simp only;omega)
  try simp only[cn]at h2
  have e1:lab (w.getD k 0)= -w.getD k 0:=by unfold lab;rw[if_neg (by omega)]
  have e3:(0-w.getD k 0-1).toNat=lid (w.getD k 0):=by unfold lid;rw[e1,Int.zero_sub]
  have ek:M (pc os pw cj) 0 (evV (pc os pw cj) xs w k) (inv (pc os pw cj) 0 (imX xs (lid (w.getD k 0))))=evV (pc os pw cj) xs w (k+1):=by rw[evV,ltV,if_neg (by omega)]
  have ti:=(inv_T (con_grp h.val hc) tx).1
  refine AW.drawL envOk (by kernel_rfl) 15 (by kernel_rfl) ?_
  simp-dsimp-implicitDefEqProofs (disch:=omega)only[hr_nil,hr_one,hr_if,List.take_succ_cons,List.take_zero,List.drop_succ_cons,List.drop_zero,List.take_nil,List.drop_nil,go_sem,undef,prs,prsP,ints,rows,cubes,gd_i,gd_r,w64,vi,e3];rw[e4]
  refine⟨_,.of (spec_l10Inv_ok os pw cj h hc _ tx),?_⟩
  try simp-dsimp-implicitDefEqProofs (disch:=omega)only[go_sem,prs,prsP,ints,rows,cubes,gd_i,gd_r,vi]
  refine⟨_,.of (spec_l08Mul_ok os pw cj h _ _ tk ti),?_⟩
  try simp-dsimp-implicitDefEqProofs (disch:=omega)only[go_sem,prs,prsP,ints,rows,cubes,gd_i,gd_r,vi]
  rw[ek]
  refine hN3 _ ?_;try clear hN3 N3
  refine AW.regionL envOk ?_;simp-dsimp-implicitDefEqProofs (disch:=omega)only[go_sem,prs,prsP,ints,rows,cubes,gd_i,gd_r,vi];refine⟨k+1,?_,fun _ _ h=>h,?_,?_⟩
  ·simp(disch:=omega) [wks,wkA,sl,prsP,w64,ints,rows,cubes,vi]<;>omega
  ·omega
  first|omega|(simp only;omega)
 try simp only[cn]at h1
 refine AW.exit ?_;simp only[thn,blk,if_true];refine hN1 _ ?_;try clear hN1 N1
 refine AW.sr envOk (fun N hN=>?_);simp-dsimp-implicitDefEqProofs (disch:=omega)only[go_sem,prs,prsP,ints,rows,cubes,gd_i,gd_r,vi];refine hN _ ?_;try clear hN N
 refine AW.ret ?_;simp-dsimp-implicitDefEqProofs (disch:=omega)only[go_sem];rw[show k=w.length by omega];rfl
theorem impl_evaluate_ok (os:List Int) (pw:List (List Int)) (cj:List (List (List Int))) (h:presOk os pw cj) (hc:Con (pc os pw cj) 0) (xs:List (List Int)) (hx:exsP os xs) (hxl:xs.length≤1000) (w:List Int) (hw:wordP xs.length w):ACo Tryz.prog 74 [prsP os pw cj,ints w,rows xs] (vi os.length (evV (pc os pw cj) xs w w.length)):=by
 have hn6:=h.1.1
 have hwl:=hw.1
 have hTV:=(times_ok os pw cj h 0 hc).1
 intro nx
 refine AC.intro' envOk Tryz.func74 rfl (by kernel_rfl) Tryz.ntmps74 Tryz.results74 (fun cX=>?_)
 refine AW.sr envOk (fun N hN=>?_);simp-dsimp-implicitDefEqProofs (disch:=omega)only[go_sem,prsP,ints,rows,cubes,gd_i,gd_r,vi];refine hN _ ?_;try clear hN N
 refine AW.sr envOk (fun N hN=>?_);simp-dsimp-implicitDefEqProofs (disch:=omega)only[go_sem,prsP,ints,rows,cubes,gd_i,gd_r,vi];refine hN _ ?_;try clear hN N
 refine AW.seq (fun N1 hN1=>?_);refine AW.sr envOk (fun N hN=>?_);simp-dsimp-implicitDefEqProofs (disch:=omega)only[go_sem,prsP,ints,rows,cubes,gd_i,gd_r,vi];refine hN _ ?_;try clear hN N
 refine AW.block ?_;refine AW.loopN (α:=Nat) (fun x=>sl 40 [(0,prsP os pw cj),(2,rows xs),(7,.h (nx+1+5) 0 os.length),(17,ints w),(18,.i .i64 w.length),(19,.i .i64 x)]) (fun x=>upd noH (nx+1+5) (some (ivs os.length (evV (pc os pw cj) xs w x)))) (fun x m=>x≤w.length∧nx+7≤m) (fun x=>w.length-x) (0) ?_ ?_ (by rw[ivs_zero];exact Le.refl _) ?_
 ·exact⟨by omega,by first|omega|(simp only;omega)|(dsimp only;omega)⟩
 ·simp(disch:=omega) [wks,wkA,sl,prsP,ints,rows,cubes,vi]
 skip
 rintro k m ⟨hk,hm⟩
 simp only[vi,prsP];simp-dsimp-implicitDefEqProofs (disch:=omega)only[go_sem];refine AW.sr envOk (fun N hN=>?_);simp-dsimp-implicitDefEqProofs (disch:=omega)only[go_sem,prsP,ints,rows,cubes,gd_i,gd_r,vi];refine hN _ ?_;try clear hN N
 refine AW.seq (fun N2 hN2=>?_);refine AW.cond rfl (fun h1=>?_) (fun h1=>?_)
 ·try simp only[cn]at h1
  obtain⟨q1,q2,q3,q4⟩:=hw.get (k:=k) (by omega)
  have q7:=hw.2 k (by omega)
  have e4:=imX_vi hx q1
  have tx:=imX_T (pw:=pw) (cj:=cj) hx q1
  have tk:=evV_T h hc hx hw k hk
  have q9:(lab (w.getD k 0)-1).toNat=lid (w.getD k 0):=rfl
  refine AW.skip ?_;simp only[thn,blk];refine hN2 _ ?_;try clear hN2 N2
  refine AW.seq (fun N3 hN3=>?_);refine AW.block ?_;refine AW.sr envOk (fun N hN=>?_);simp-dsimp-implicitDefEqProofs (disch:=omega)only[go_sem,prsP,ints,rows,cubes,gd_i,gd_r,vi];refine hN _ ?_;try clear hN N
  refine AW.sr envOk (fun N hN=>?_);simp-dsimp-implicitDefEqProofs (disch:=omega)only[go_sem,prsP,ints,rows,cubes,gd_i,gd_r,vi];refine AC.pure (.of (impl_abs_ok (w.getD k 0) (by omega))) ?_;try simp-dsimp-implicitDefEqProofs (disch:=omega)only[go_sem,ints,rows,gd_i,gd_r,q9,e4]
  refine hN _ ?_;try clear hN N
  refine AW.seq (fun N4 hN4=>?_);refine AW.sr envOk (fun N hN=>?_);simp-dsimp-implicitDefEqProofs (disch:=omega)only[go_sem,prsP,ints,rows,cubes,gd_i,gd_r,vi];refine hN _ ?_;try clear hN N
  refine AW.cond rfl (fun h2=>?_) (fun h2=>?_)
  ·try simp only[cn]at h2
   have ek:M (pc os pw cj) 0 (evV (pc os pw cj) xs w k) (inv (pc os pw cj) 0 (imX xs (lid (w.getD k 0))))=evV (pc os pw cj) xs w (k+1):=by rw[evV,ltV,if_neg (by omega)]
   have ti:=(inv_T (con_grp h.val hc) tx).1
   refine AW.regionL envOk ?_;simp-dsimp-implicitDefEqProofs (disch:=omega)only[go_sem,prsP,ints,rows,cubes,gd_i,gd_r,vi];refine AC.pure (.of ((impl_invert_ok os pw cj h 0 hc _ tx).pure)) ?_;try simp-dsimp-implicitDefEqProofs (disch:=omega)only[go_sem,prsP,ints,rows,cubes,gd_i,gd_r,vi]
   refine hN4 _ ?_;try clear hN4 N4
   refine AW.regionL envOk ?_;simp-dsimp-implicitDefEqProofs (disch:=omega)only[go_sem,prsP,ints,rows,cubes,gd_i,gd_r,vi];refine(hTV _ _ (nx+1+5) _ _ (upd_same _ _ _) tk ti).mono2 ?_
   rintro m2 H2 r2 hm2 rfl
   rw[app_M h.val tk ti,ek]
   try simp-dsimp-implicitDefEqProofs (disch:=omega)only[go_sem,prsP,ints,rows,cubes,gd_i,gd_r,vi]
   refine hN3 _ ?_;try clear hN3 N3
   refine AW.regionL envOk ?_;simp-dsimp-implicitDefEqProofs (disch:=omega)only[go_sem,prsP,ints,rows,cubes,gd_i,gd_r,vi];refine⟨k+1,?_,fun _ _ h=>h,?_,?_⟩
   ·simp(disch:=omega) [wks,wkA,sl,prsP,w64,ints,rows,cubes,vi]<;>omega
   ·exact⟨by first|omega|(simp only;omega)|(dsimp only;omega),by first|omega|(simp only;omega)|(dsimp only;omega)⟩
   first|omega|(simp only;omega)
  try simp only[cn]at h2
  have ek:M (pc os pw cj) 0 (evV (pc os pw cj) xs w k) (imX xs (lid (w.getD k 0)))=evV (pc os pw cj) xs w (k+1):=by rw[evV,ltV,if_pos (by omega)]
  refine AW.skip ?_;simp only[thn,blk];refine hN4 _ ?_;try clear hN4 N4
  refine AW.regionL envOk ?_;simp-dsimp-implicitDefEqProofs (disch:=omega)only[go_sem,prsP,ints,rows,cubes,gd_i,gd_r,vi];refine(hTV _ _ (nx+1+5) _ _ (upd_same _ _ _) tk tx).mono2 ?_
  rintro m2 H2 r2 hm2 rfl
  rw[app_M h.val tk tx,ek]
  try simp-dsimp-implicitDefEqProofs (disch:=omega)only[go_sem,prsP,ints,rows,cubes,gd_i,gd_r,vi]
  refine hN3 _ ?_;try clear hN3 N3
  refine AW.regionL envOk ?_;simp-dsimp-implicitDefEqProofs (disch:=omega)only[go_sem,prsP,ints,rows,cubes,gd_i,gd_r,vi];refine⟨k+1,?_,fun _ _ h=>h,?_,?_⟩
  ·simp(disch:=omega) [wks,wkA,sl,prsP,w64,ints,rows,cubes,vi]<;>omega
  ·exact⟨by first|omega|(simp only;omega)|(dsimp only;omega),by first|omega|(simp only;omega)|(dsimp only;omega)⟩
  first|omega|(simp only;omega)
 try simp only[cn]at h1
 refine AW.exit ?_;simp only[thn,blk,if_true];refine hN1 _ ?_;try clear hN1 N1
 refine AW.sr envOk (fun N hN=>?_);simp-dsimp-implicitDefEqProofs (disch:=omega)only[go_sem,prsP,ints,rows,cubes,gd_i,gd_r,vi];refine hN _ ?_;try clear hN N
 refine AW.ret ?_;simp-dsimp-implicitDefEqProofs (disch:=omega)only[go_sem];obtain rfl:k=w.length:=by omega
 exact Own.vi (upd_same _ _ _) (by omega) (by omega)
theorem impl_respects_ok (rs:List (List Int)) (os:List Int) (pw:List (List Int)) (cj:List (List (List Int))) (h:presOk os pw cj) (hc:Con (pc os pw cj) 0) (xs:List (List Int)) (hx:exsP os xs) (hxl:xs.length≤1000) (hr:rowslen rs) (hw:∀k,k<rs.length→wordP xs.length (rs.getD k [])):ACp Tryz.prog 37 [rows rs,prsP os pw cj,rows xs] (.b (tf (hldP (pc os pw cj) xs rs))):=by
 have hn6:=h.1.1
 have hrn:=hr.n
 refine ACp.intro' envOk Tryz.func37 rfl (by kernel_rfl) Tryz.ntmps37 Tryz.results37 (.b _) (fun nx cX=>?_)
 refine AW.sr envOk (fun N hN=>?_);simp-dsimp-implicitDefEqProofs (disch:=omega)only[go_sem,prsP,rows,gd_r];refine hN _ ?_;try clear hN N
 refine AW.seq (fun N1 hN1=>?_);refine AW.sr envOk (fun N hN=>?_);simp-dsimp-implicitDefEqProofs (disch:=omega)only[go_sem,prsP,rows,gd_r];refine hN _ ?_;try clear hN N
 refine AW.block ?_;refine AW.loopN (α:=Nat) (fun x=>sl 22 [(1,prsP os pw cj),(2,rows xs),(9,rows rs),(10,.i .i64 rs.length),(11,.i .i64 x)]) (fun _=>noH) (fun x m=>x≤rs.length∧∀j,j<x→evV (pc os pw cj) xs (rs.getD j []) (rs.getD j []).length=z0) (fun x=>rs.length-x) (0) ?_ ?_ (fun _ _ h=>h) ?_
 ·exact⟨by omega,by intro j hj;omega⟩
 ·simp(disch:=omega) [wks,wkA,sl,prsP,ints,rows,cubes,vi]
 skip
 rintro k m ⟨hk,hI⟩
 simp only[prsP];simp-dsimp-implicitDefEqProofs (disch:=omega)only[go_sem];refine AW.sr envOk (fun N hN=>?_);simp-dsimp-implicitDefEqProofs (disch:=omega)only[go_sem,prsP,rows,gd_r];refine hN _ ?_;try clear hN N
 refine AW.seq (fun N2 hN2=>?_);refine AW.cond rfl (fun h1=>?_) (fun h1=>?_)
 ·try simp only[cn]at h1
  refine AW.skip ?_;simp only[thn,blk];refine hN2 _ ?_;try clear hN2 N2
  refine AW.seq (fun N3 hN3=>?_);refine AW.block ?_;refine AW.sr envOk (fun N hN=>?_);simp-dsimp-implicitDefEqProofs (disch:=omega)only[go_sem,prsP,rows,gd_r];refine hN _ ?_;try clear hN N
  refine AW.sr envOk (fun N hN=>?_);simp-dsimp-implicitDefEqProofs (disch:=omega)only[go_sem,prsP,rows,gd_r];refine AC.pure (.of ((impl_evaluate_ok os pw cj h hc xs hx hxl (rs.getD k []) (hw k (by omega))).pure)) ?_;try simp-dsimp-implicitDefEqProofs (disch:=omega)only[go_sem,prsP,rows,gd_r]
  refine AC.pure (.of (impl_isZero_T (by omega) (evV_T h hc hx (hw k (by omega)) _ (Nat.le_refl _)))) ?_;try simp-dsimp-implicitDefEqProofs (disch:=omega)only[go_sem,prsP,rows,gd_r]
  refine hN _ ?_;try clear hN N
  refine AW.cond rfl (fun h2=>?_) (fun h2=>?_)
  ·try simp only[cn]at h2
   refine AW.sr envOk (fun N hN=>?_);simp-dsimp-implicitDefEqProofs (disch:=omega)only[go_sem,prsP,rows,gd_r];refine hN _ ?_;try clear hN N
   refine AW.ret ?_;simp-dsimp-implicitDefEqProofs (disch:=omega)only[go_sem];exact bt (tf_f (fun q=>h2 (q k (by omega)))).symm
  try simp only[cn]at h2
  refine AW.skip ?_;simp only[thn,blk];refine hN3 _ ?_;try clear hN3 N3
  refine AW.regionL envOk ?_;simp-dsimp-implicitDefEqProofs (disch:=omega)only[go_sem,prsP,rows,gd_r];refine⟨k+1,?_,fun _ _ h=>h,?_,?_⟩
  ·simp(disch:=omega) [wks,wkA,sl,prsP,w64,ints,rows,cubes,vi]<;>omega
  ·refine⟨by omega,fun j hj=>?_⟩
   by_cases e:j=k
   ·subst e;exact h2
   exact hI j (by omega)
  first|omega|(simp only;omega)
 try simp only[cn]at h1
 refine AW.exit ?_;simp only[thn,blk,if_true];refine hN1 _ ?_;try clear hN1 N1
 refine AW.sr envOk (fun N hN=>?_);simp-dsimp-implicitDefEqProofs (disch:=omega)only[go_sem,prsP,rows,gd_r];refine hN _ ?_;try clear hN N
 refine AW.ret ?_;simp-dsimp-implicitDefEqProofs (disch:=omega)only[go_sem];exact bt (tf_t (fun j hj=>hI j (by omega))).symm
end Go.Proofs.YtghmeeifjeafmaaGreat
namespace Go.Proofs.YtghmeeifjeafmaaGreat
open Nat (reduceAdd reduceSub reduceGT reduceEqDiff reduceMul)
def bvs (n:Nat) (f:Nat→Bool):List AV:=(List.range n).map fun k=> .b (f k)
def bset (f:Nat→Bool) (j:Nat) (x:Bool):Nat→Bool:=fun k=>if k=j then x else f k
theorem bvs_len {n:Nat} {f:Nat→Bool}:(bvs n f).length=n:=by simp[bvs]
theorem bvs_get {n:Nat} {f:Nat→Bool} {j:Nat} (h:j<n):(bvs n f).getD j .j= .b (f j):=by simp[bvs,h]
theorem bvs_set {n:Nat} {f:Nat→Bool} {j:Nat} {x:Bool} (h:j<n):splice (bvs n f) j [.b x]=bvs n (bset f j x):=by
  rw[splice_one _ _ _ (by rw[bvs_len];exact h)]
  apply List.ext_getElem?
  intro i
  rw[List.getElem?_set]
  by_cases hi:j=i
  · subst hi;simp[bvs,bset,h]
  simp only[hi,if_false,bvs,List.getElem?_map]
  by_cases hn:i<n
  · simp[hn,bset,Ne.symm hi]
  simp[hn]
attribute [go_sem] bvs_len bvs_get bvs_set
end Go.Proofs.YtghmeeifjeafmaaGreat
namespace Go.Proofs.YtghmeeifjeafmaaGreat
open Nat (reduceAdd reduceSub reduceGT reduceEqDiff reduceMul)
def vrs (n v:Nat) (m:Nat→V):List AV:=(List.range v).map fun k=>vi n (m k)
theorem vrs_len {n v:Nat} {m:Nat→V}:(vrs n v m).length=v:=by simp[vrs]
theorem vrs_get {n v:Nat} {m:Nat→V} {k:Nat} (h:k<v):(vrs n v m).getD k .j=vi n (m k):=by simp[vrs,h]
attribute [go_sem] vrs_len vrs_get
section
variable {os:List Int} {pw:List (List Int)} {cj:List (List (List Int))} (h:presOk os pw cj) {xs:List (List Int)} (hx:exsP os xs) {tb:List (List Int)} (hl:tb.length≤xs.length)
include h hx hl
end
def cvs (N n v:Nat) (m:Nat→V):List AV:=(List.range N).map fun k=>if k<v then vi n (m k)else .nl
theorem cvs_len {N n v:Nat} {m:Nat→V}:(cvs N n v m).length=N:=by simp[cvs]
end Go.Proofs.YtghmeeifjeafmaaGreat
namespace Go.Proofs.YtghmeeifjeafmaaGreat
open Nat (reduceAdd reduceSub reduceGT reduceEqDiff reduceMul)
attribute [go_sem] cvs_len
end Go.Proofs.YtghmeeifjeafmaaGreat
