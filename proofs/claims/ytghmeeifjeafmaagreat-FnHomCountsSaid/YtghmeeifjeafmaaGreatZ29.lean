import Derived.Test.YtghmeeifjeafmaaGreatZ17
import Derived.Test.YtghmeeifjeafmaaGreatZ19
import Derived.Test.YtghmeeifjeafmaaGreatZ28
set_option linter.unusedVariables false
set_option linter.unusedSimpArgs false
namespace Go.Proofs.YtghmeeifjeafmaaGreat
open Nat (reduceAdd reduceSub reduceGT reduceEqDiff reduceMul)
theorem wordP_of {g:Int} {w:List Int} (h1:w.length≤64) (h2:∀a∈w,a≠0∧-g≤a∧a≤g):wordP g w:=⟨h1,fun j hj=>by
  have:=h2 w[j] (List.getElem_mem hj)
  rw[List.getD_eq_getElem?_getD,List.getElem?_eq_getElem hj];exact this⟩
theorem wdN_len6 {e:List Int} (h:∀k,k<e.length→e.getD k 0≤6):∀k,k≤e.length→(wdN e k).length≤6*k:=by
  intro k
  induction k with
  |zero=>intro _;simp[wdN]
  | succ k ih=>
    intro hk
    have:=ih (by omega)
    have:=h k (by omega)
    rw[wdN,List.length_append,List.length_replicate];omega
theorem wdN_mem2 {e:List Int}:∀k,∀x∈wdN e k,1≤x∧x≤k:=by
  intro k
  induction k with
  |zero=>intro x hx;simp[wdN]at hx
  | succ k ih=>
    intro x hx
    rw[wdN]at hx
    rcases List.mem_append.1 hx with hx|hx
    · have:=ih x hx;omega
    rw[(List.mem_replicate.1 hx).2];omega
theorem pr4_7 {x:Int} (h:pr4 x):2≤x∧x≤7:=by unfold pr4 at h;omega
section
variable {os:List Int} {pw:List (List Int)} {cj:List (List (List Int))} (h:presOk os pw cj)
include h
theorem nwd_word {e:List Int} (hl:e.length=os.length) (hv:∀k,k<e.length→0≤e.getD k 0∧e.getD k 0≤os.getD k 0-1):(nwd e).length≤36∧∀x∈nwd e,1≤x∧x≤(os.length:Int):=by
  have h6:=h.1.1
  refine⟨?_,fun x hx=>?_⟩
  · have:=wdN_len6 (e:=e) (fun k hk=>by have:=hv k hk;have:=pr4_7 (h.2.1 k (by omega));omega) e.length (Nat.le_refl _)
    unfold nwd;omega
  have:=wdN_mem2 (e:=e) e.length x hx
  omega
theorem relA_word {i:Nat} (hi:i<os.length):wordP os.length (relA os pw i):=by
  have h1:=(h.2.2.2 i hi).1
  have h2:=nwd_word h (e:=pw.getD i []) h1.1 (fun k hk=>(h1.2 k hk).1)
  have h3:=pr4_7 (h.2.1 i hi)
  refine wordP_of ?_ (fun a ha=>?_)
  · unfold relA;rw[List.length_append,List.length_replicate,invW_len];omega
  unfold relA at ha
  rcases List.mem_append.1 ha with ha|ha
  · rw[(List.mem_replicate.1 ha).2];omega
  unfold invW at ha
  rw[List.mem_reverse,List.mem_map]at ha
  obtain⟨x,hx,rfl⟩:=ha
  have:=h2.2 x hx;omega
theorem relB_word {i d:Nat} (hi:i<os.length) (hd:d<(cj.getD i []).length):wordP os.length (relB cj i d):=by
  have h0:=h.2.2.2 i hi
  have h1:=h0.2.2 d hd
  have h2:=nwd_word h (e:=(cj.getD i []).getD d []) h1.1 (fun k hk=>(h1.2 k hk).1)
  have h3:=h0.2.1
  refine wordP_of ?_ (fun a ha=>?_)
  · unfold relB;rw[List.length_append,invW_len];simp only[List.length_cons,List.length_nil];omega
  unfold relB at ha
  rcases List.mem_append.1 ha with ha|ha
  · simp only[List.mem_cons,List.not_mem_nil,or_false]at ha;omega
  unfold invW at ha
  rw[List.mem_reverse,List.mem_map]at ha
  obtain⟨x,hx,rfl⟩:=ha
  have:=h2.2 x hx;omega
theorem relsC_word:∀k,k≤os.length→∀x∈relsC cj os.length k,wordP os.length x:=by
  intro k
  induction k with
  |zero=>intro _ x hx;simp[relsC]at hx
  | succ k ih=>
    intro hk x hx
    rw[relsC]at hx
    rcases List.mem_append.1 hx with hx|hx
    · exact ih (by omega) x hx
    unfold relsB at hx
    obtain⟨d,hd,rfl⟩:=List.mem_map.1 hx
    rw[List.mem_range]at hd
    have:=(h.cj (i:=k) (by omega)).1
    exact relB_word h (by omega) (by omega)
theorem rels_word:∀k,k<(rels os pw cj).length→wordP os.length ((rels os pw cj).getD k []):=by
  intro k hk
  have hm:(rels os pw cj).getD k []∈rels os pw cj:=by rw[List.getD_eq_getElem?_getD,List.getElem?_eq_getElem hk];exact List.getElem_mem _
  generalize (rels os pw cj).getD k []=x at hm
  unfold rels at hm
  rcases List.mem_append.1 hm with hm|hm
  · unfold relsA at hm
    obtain⟨d,hd,rfl⟩:=List.mem_map.1 hm
    exact relA_word h (List.mem_range.1 hd)
  exact relsC_word h _ (Nat.le_refl _) x hm
omit h in
theorem relsC_len2:∀k,k≤os.length→2*(relsC cj os.length k).length+k*k+k=2*os.length*k:=by
  intro k
  induction k with
  |zero=>intro _;simp[relsC]
  | succ k ih=>
    intro hk
    have:=ih (by omega)
    have e1:(k+1)*(k+1)=k*k+2*k+1:=by rw[Nat.add_mul,Nat.mul_add];omega
    rw[relsC,List.length_append,relsB_len,e1,Nat.mul_succ]
    omega
theorem rels_fp (h4:os.length≤4):fpP os.length (rels os pw cj):=by
  refine⟨by omega,?_,rels_word h⟩
  have h1:=relsC_len2 (cj:=cj) (os:=os) os.length (Nat.le_refl _)
  unfold rels
  rw[List.length_append,relsA_len]
  generalize (relsC cj os.length os.length).length=c at h1 ⊢
  generalize os.length=n at h1 h4 ⊢
  have:n=0∨n=1∨n=2∨n=3∨n=4:=by omega
  rcases this with rfl|rfl|rfl|rfl|rfl<;>omega
end
section
variable (os:List Int) (pw:List (List Int)) (cj:List (List (List Int))) (ot:List Int) (qw:List (List Int)) (dj:List (List (List Int)))
theorem spec_l16Tuples_ok (hn:os.length≤6) (h:presOk ot qw dj):ACp Tryz.prog 26 [prs os pw cj,prs ot qw dj] (.i .i64 (stq (prd ot ot.length) os.length)):=by
 have hq:=h.2.2.1
 have hq1:=prd_pos h.2.1 ot.length (Nat.le_refl _)
 have hor:=spec_l10Order_ok ot qw dj h
 obtain⟨N,hqe⟩:∃N,prd ot ot.length=N:=⟨_,rfl⟩
 rw[hqe]at hq hq1 hor ⊢
 refine ACp.intro' envOk Tryz.func26 rfl (by kernel_rfl) Tryz.ntmps26 Tryz.results26 (.i _ _) (fun nx cX=>?_)
 refine AW.sr envOk (fun N hN=>?_);simp-dsimp-implicitDefEqProofs (disch:=omega)only[go_sem,prs,prsP,ints];refine hN _ ?_;try clear hN N
 refine AW.freezeQ 2 nx _ rfl ((upd_ne _ _ (by omega)).trans (upd_same _ _ _)) ?_
 simp-dsimp-implicitDefEqProofs (disch:=omega)only[go_sem];refine AW.freezeQ 3 (nx+1) _ rfl ((upd_ne _ _ (by omega)).trans (upd_same _ _ _)) ?_
 simp-dsimp-implicitDefEqProofs (disch:=omega)only[go_sem];refine AW.sr envOk (fun N hN=>?_);simp-dsimp-implicitDefEqProofs (disch:=omega)only[go_sem,prs,prsP,ints];refine hN _ ?_;try clear hN N
 refine AW.seq (fun N1 hN1=>?_);refine AW.sr envOk (fun N hN=>?_);simp-dsimp-implicitDefEqProofs (disch:=omega)only[go_sem,prs,prsP,ints];refine hN _ ?_;try clear hN N
 refine AW.block ?_;refine AW.loopN (α:=Nat) (fun x=>sl 21 [(2,prsP os pw cj),(3,prsP ot qw dj),(5,.i .i64 (stq N x)),(6,.i .i64 x)]) (fun _=>noH) (fun x m=>x≤os.length) (fun x=>os.length-x) (0) ?_ ?_ (by intro d cs hd;cases hd) ?_
 ·omega
 ·simp(disch:=omega) [wks,wkA,sl,prsP,ints,rows,cubes,stq]
 skip
 rintro k m hk
 simp only[prsP,ints];simp-dsimp-implicitDefEqProofs (disch:=omega)only[go_sem];have hb:=stq_bd hq1 hq k
 refine AW.seq (fun N2 hN2=>?_);refine AW.sr envOk (fun N hN=>?_);simp-dsimp-implicitDefEqProofs (disch:=omega)only[go_sem,prs,prsP,ints];refine hN _ ?_;try clear hN N
 refine AW.cond rfl (fun h1=>?_) (fun h1=>?_)
 ·try simp only[cn]at h1
  refine AW.skip ?_;simp only[thn,blk];refine hN2 _ ?_;try clear hN2 N2
  refine AW.seq (fun N3 hN3=>?_);refine AW.block ?_;refine AW.sr envOk (fun N hN=>?_);simp-dsimp-implicitDefEqProofs (disch:=omega)only[go_sem,prs,prsP,ints];refine hN _ ?_;try clear hN N
  refine AW.cond rfl (fun h2=>?_) (fun h2=>?_)
  ·try simp only[cn]at h2
   have hmb:=mul_bd hb.1 h2 hq1 hq
   have hs:stq N (k+1)=stq N k*N:=by rw[stq,if_pos h2]
   refine AW.regionL envOk ?_;simp-dsimp-implicitDefEqProofs (disch:=omega)only[go_sem,prs,prsP,ints];refine AC.pure (.of (hor)) ?_;try simp-dsimp-implicitDefEqProofs (disch:=omega)only[go_sem,prs,prsP,ints]
   refine hN3 _ ?_;try clear hN3 N3
   refine AW.regionL envOk ?_;simp-dsimp-implicitDefEqProofs (disch:=omega)only[go_sem,prs,prsP,ints];refine⟨k+1,?_,fun _ _ h=>h,?_,?_⟩
   ·simp(disch:=omega) [wks,wkA,sl,prsP,ints,rows,cubes,hs]
   ·omega
   first|omega|(simp only;omega)
  try simp only[cn]at h2
  have hs:stq N (k+1)=stq N k:=by rw[stq,if_neg (by omega)]
  refine AW.skip ?_;simp only[thn,blk];refine hN3 _ ?_;try clear hN3 N3
  refine AW.regionL envOk ?_;simp-dsimp-implicitDefEqProofs (disch:=omega)only[go_sem,prs,prsP,ints];refine⟨k+1,?_,fun _ _ h=>h,?_,?_⟩
  ·simp(disch:=omega) [wks,wkA,sl,prsP,ints,rows,cubes,hs]
  ·omega
  first|omega|(simp only;omega)
 try simp only[cn]at h1
 refine AW.exit ?_;simp only[thn,blk,if_true];refine hN1 _ ?_;try clear hN1 N1
 refine AW.sr envOk (fun N hN=>?_);simp-dsimp-implicitDefEqProofs (disch:=omega)only[go_sem,prs,prsP,ints];refine hN _ ?_;try clear hN N
 refine AW.ret ?_;simp-dsimp-implicitDefEqProofs (disch:=omega)only[go_sem];rw[show k=os.length by omega]
theorem spec_l16Relators_ok (hp:presOk os pw cj) (h:presOk ot qw dj) (hc:Con (pc ot qw dj) 0) (xs:List (List Int)) (hx:exsP ot xs) (hxl:xs.length=os.length):ACp Tryz.prog 28 [prs os pw cj,prs ot qw dj,rows xs] (.b (tf (hldP (pc ot qw dj) xs (rels os pw cj)))):=by
 have hn6:=hp.1.1
 have hn7:=h.1.1
 have hw:=rels_word hp
 have hrl:=rels_rl hp
 have hrn:=hrl.n
 obtain⟨rs,hrs⟩:∃rs,rels os pw cj=rs:=⟨_,rfl⟩
 have hre:=spec_l07Relators_ok os pw cj hp
 rw[hrs]at hw hrn hre ⊢
 refine ACp.intro' envOk Tryz.func28 rfl (by kernel_rfl) Tryz.ntmps28 Tryz.results28 (.b _) (fun nx cX=>?_)
 refine AW.sr envOk (fun N hN=>?_);simp-dsimp-implicitDefEqProofs (disch:=omega)only[go_sem,prs,prsP,rows,gd_r];refine hN _ ?_;try clear hN N
 refine AW.freezeQ 3 nx _ rfl ((upd_ne _ _ (by omega)).trans (upd_same _ _ _)) ?_
 simp-dsimp-implicitDefEqProofs (disch:=omega)only[go_sem];refine AW.freezeQ 4 (nx+1) _ rfl ((upd_ne _ _ (by omega)).trans (upd_same _ _ _)) ?_
 simp-dsimp-implicitDefEqProofs (disch:=omega)only[go_sem];refine AW.sr envOk (fun N hN=>?_);simp-dsimp-implicitDefEqProofs (disch:=omega)only[go_sem,prs,prsP,rows,gd_r];refine AC.pure (.of (hre)) ?_;try simp-dsimp-implicitDefEqProofs (disch:=omega)only[go_sem,prs,prsP,rows,gd_r]
 refine hN _ ?_;try clear hN N
 refine AW.seq (fun N1 hN1=>?_);refine AW.sr envOk (fun N hN=>?_);simp-dsimp-implicitDefEqProofs (disch:=omega)only[go_sem,prs,prsP,rows,gd_r];refine hN _ ?_;try clear hN N
 refine AW.block ?_;refine AW.loopN (α:=Nat) (fun x=>sl 26 [(2,rows xs),(4,prsP ot qw dj),(7,rows rs),(8,.i .i64 x)]) (fun _=>noH) (fun x m=>x≤rs.length∧∀k,k<x→evV (pc ot qw dj) xs (rs.getD k []) (rs.getD k []).length=z0) (fun x=>rs.length-x) (0) ?_ ?_ (by intro d cs hd;cases hd) ?_
 ·exact⟨by omega,by intro j hj;omega⟩
 ·simp(disch:=omega) [wks,wkA,sl,w64,ints,rows,cubes,prs,prsP,rows,gd_r,w64]<;>omega
 skip
 rintro k m ⟨hk,hI⟩
 simp only[prsP,rows];simp-dsimp-implicitDefEqProofs (disch:=omega)only[go_sem];refine AW.seq (fun N2 hN2=>?_);refine AW.sr envOk (fun N hN=>?_);simp-dsimp-implicitDefEqProofs (disch:=omega)only[go_sem,prs,prsP,rows,gd_r];refine hN _ ?_;try clear hN N
 refine AW.cond rfl (fun h1=>?_) (fun h1=>?_)
 ·try simp only[cn]at h1
  have hwk:=hw k (by omega)
  refine AW.skip ?_;simp only[thn,blk];refine hN2 _ ?_;try clear hN2 N2
  refine AW.seq (fun N3 hN3=>?_);refine AW.block ?_;refine AW.seq (fun N hN=>?_);refine AW.drawL envOk (by kernel_rfl) 9 (by kernel_rfl) ?_
  simp-dsimp-implicitDefEqProofs (disch:=omega)only[hr_nil,hr_one,hr_if,List.take_succ_cons,List.take_zero,List.drop_succ_cons,List.drop_zero,List.take_nil,List.drop_nil,go_sem,undef,prs,prsP,rows,gd_r,w64];rw[show AV.v xs.length (xs.map ints)=rows xs from rfl]
  refine⟨_,.of (spec_l10Eval_ok ot qw dj h hc xs hx (by omega) (rs.getD k []) (by rw[hxl];exact hwk)),?_⟩
  try simp-dsimp-implicitDefEqProofs (disch:=omega)only[go_sem,prs,prsP,rows,gd_r]
  refine⟨_,.of (spec_l01Zero_T (by omega) (evV_T h hc hx (by rw[hxl];exact hwk) _ (Nat.le_refl _))),?_⟩
  try simp-dsimp-implicitDefEqProofs (disch:=omega)only[go_sem,prs,prsP,rows,gd_r]
  refine hN _ ?_;try clear hN N
  refine AW.cond rfl (fun h2=>?_) (fun h2=>?_)
  ·try simp only[cn]at h2
   refine AW.sr envOk (fun N hN=>?_);simp-dsimp-implicitDefEqProofs (disch:=omega)only[go_sem,prs,prsP,rows,gd_r];refine hN _ ?_;try clear hN N
   refine AW.ret ?_;simp-dsimp-implicitDefEqProofs (disch:=omega)only[go_sem];exact bt (tf_f (fun hq=>h2 (hq k (by omega)))).symm
  try simp only[cn]at h2
  refine AW.skip ?_;simp only[thn,blk];refine hN3 _ ?_;try clear hN3 N3
  refine AW.regionL envOk ?_;simp-dsimp-implicitDefEqProofs (disch:=omega)only[go_sem,prs,prsP,rows,gd_r];refine⟨k+1,?_,fun _ _ h=>h,?_,?_⟩
  ·simp(disch:=omega) [wks,wkA,sl,w64,ints,rows,cubes,prs,prsP,rows,gd_r,w64]<;>omega
  ·refine⟨by omega,fun j hj=>?_⟩
   by_cases e:j=k
   ·subst e;exact h2
   exact hI j (by omega)
  first|omega|(simp only;omega)
 try simp only[cn]at h1
 refine AW.exit ?_;simp only[thn,blk,if_true];refine hN1 _ ?_;try clear hN1 N1
 refine AW.sr envOk (fun N hN=>?_);simp-dsimp-implicitDefEqProofs (disch:=omega)only[go_sem,prs,prsP,rows,gd_r];refine hN _ ?_;try clear hN N
 refine AW.ret ?_;simp-dsimp-implicitDefEqProofs (disch:=omega)only[go_sem];exact bt (tf_t (fun j hj=>hI j (by omega))).symm
theorem spec_l16Code_ok (hl:prlen os pw cj) (hl2:prlen ot qw dj):ACp Tryz.prog 58 [prs os pw cj,prs ot qw dj] (.i .i64 (cceP (grpP os pw cj∧grpP ot qw dj) (stq (prd ot ot.length) os.length))):=by
 have hlo:=hl.o
 have hlo2:=hl2.o
 obtain⟨OK,hOK⟩:∃OK:Prop,(grpP os pw cj∧grpP ot qw dj)=OK:=⟨_,rfl⟩
 rw[hOK]
 refine ACp.intro' envOk Tryz.func58 rfl (by kernel_rfl) Tryz.ntmps58 Tryz.results58 (.i _ _) (fun nx cX=>?_)
 refine AW.sr envOk (fun N hN=>?_);simp-dsimp-implicitDefEqProofs (disch:=omega)only[go_sem,prs,prsP,rows];refine hN _ ?_;try clear hN N
 refine AW.seq (fun N1 hN1=>?_);refine AW.block ?_;refine AW.freezeQ 2 nx _ rfl ((upd_ne _ _ (by omega)).trans (upd_same _ _ _)) ?_
 simp-dsimp-implicitDefEqProofs (disch:=omega)only[go_sem];refine AW.freezeQ 3 (nx+1) _ rfl ((upd_ne _ _ (by omega)).trans (upd_same _ _ _)) ?_
 simp-dsimp-implicitDefEqProofs (disch:=omega)only[go_sem];refine AW.sr envOk (fun N hN=>?_);simp-dsimp-implicitDefEqProofs (disch:=omega)only[go_sem,prs,prsP,rows];refine AC.pure (.of (spec_l08Group_ok os pw cj hl)) ?_;try simp-dsimp-implicitDefEqProofs (disch:=omega)only[go_sem,prs,prsP,rows]
 refine gopB.mk' (fun h1=>?_) (fun h1=>?_)
 ·try simp only[cn]at h1
  try simp-dsimp-implicitDefEqProofs (disch:=omega)only[go_sem,prs,prsP,rows]
  refine AC.pure (.of (spec_l08Group_ok ot qw dj hl2)) ?_;try simp-dsimp-implicitDefEqProofs (disch:=omega)only[go_sem,prs,prsP,rows]
  refine hN _ ?_;try clear hN N
  refine AW.cond rfl (fun h2=>?_) (fun h2=>?_)
  ·try simp only[cn]at h2
   refine AW.sr envOk (fun N hN=>?_);simp-dsimp-implicitDefEqProofs (disch:=omega)only[go_sem,prs,prsP,rows];refine hN _ ?_;try clear hN N
   refine AW.ret ?_;simp-dsimp-implicitDefEqProofs (disch:=omega)only[go_sem];rw[cceP,tf_f (show ¬OK by rw[←hOK];exact fun q=>h2 q.2)];simp
  try simp only[cn]at h2
  have hb4:=stq_bd (prd_pos h2.1.2.1 ot.length (Nat.le_refl _)) h2.1.2.2.1 os.length
  have htp:=spec_l16Tuples_ok os pw cj ot qw dj h1.1.1.1 h2.1
  refine AW.sr envOk (fun N hN=>?_);simp-dsimp-implicitDefEqProofs (disch:=omega)only[go_sem,prs,prsP,rows];refine AC.pure (.of (htp)) ?_;try simp-dsimp-implicitDefEqProofs (disch:=omega)only[go_sem,prs,prsP,rows]
  refine hN _ ?_;try clear hN N
  refine AW.cond rfl (fun h3=>?_) (fun h3=>?_)
  ·try simp only[cn]at h3
   refine AW.sr envOk (fun N hN=>?_);simp-dsimp-implicitDefEqProofs (disch:=omega)only[go_sem,prs,prsP,rows];refine hN _ ?_;try clear hN N
   refine AW.ret ?_;simp-dsimp-implicitDefEqProofs (disch:=omega)only[go_sem];rw[cceP,tf_t (show OK by rw[←hOK];exact⟨h1,h2⟩),if_pos rfl,if_neg (by omega)]
  try simp only[cn]at h3
  refine AW.skip ?_;simp only[thn,blk];refine hN1 _ ?_;try clear hN1 N1
  refine AW.sr envOk (fun N hN=>?_);simp-dsimp-implicitDefEqProofs (disch:=omega)only[go_sem,prs,prsP,rows];refine hN _ ?_;try clear hN N
  refine AW.ret ?_;simp-dsimp-implicitDefEqProofs (disch:=omega)only[go_sem];rw[cceP,tf_t (show OK by rw[←hOK];exact⟨h1,h2⟩),if_pos rfl,if_pos (by omega)]
 try simp only[cn]at h1
 try simp-dsimp-implicitDefEqProofs (disch:=omega)only[go_sem,prs,prsP,rows]
 refine hN _ ?_;try clear hN N
 refine AW.condT rfl ?_;refine AW.sr envOk (fun N hN=>?_);simp-dsimp-implicitDefEqProofs (disch:=omega)only[go_sem,prs,prsP,rows];refine hN _ ?_;try clear hN N
 refine AW.ret ?_;simp-dsimp-implicitDefEqProofs (disch:=omega)only[go_sem];rw[cceP,tf_f (show ¬OK by rw[←hOK];exact fun q=>h1 q.1)];simp
def hmQ (k:Nat):Prop:=hldP (pc ot qw dj) (tupS ot (prd ot ot.length) os.length k) (rels os pw cj)
def hmT:Int:=stq (prd ot ot.length) os.length
set_option maxHeartbeats 1000000 in
theorem spec_CountHoms_ok (hl:prlen os pw cj) (hl2:prlen ot qw dj):ACp Tryz.prog 25 [prs os pw cj,prs ot qw dj] (resN (ccvP (grpP os pw cj∧grpP ot qw dj) (hmT os ot) (cntF (hmQ os pw cj ot qw dj) (hmT os ot).toNat)) (cceP (grpP os pw cj∧grpP ot qw dj) (hmT os ot))):=by
 have hlo:=hl.o
 have hlo2:=hl2.o
 have hcd:=spec_l16Code_ok os pw cj ot qw dj hl hl2
 obtain⟨OK,hOK⟩:∃OK:Prop,(grpP os pw cj∧grpP ot qw dj)=OK:=⟨_,rfl⟩
 obtain⟨tt,htt⟩:∃tt,stq (prd ot ot.length) os.length=tt:=⟨_,rfl⟩
 obtain⟨pp,hpp⟩:∃pp,hmQ os pw cj ot qw dj=pp:=⟨_,rfl⟩
 unfold hmT
 rw[hOK,htt]at hcd
 rw[hOK,htt,hpp]
 obtain⟨ee,hee⟩:∃ee,cceP OK tt=ee:=⟨_,rfl⟩
 rw[hee]at hcd ⊢
 refine ACp.intro' envOk Tryz.func25 rfl (by kernel_rfl) Tryz.ntmps25 Tryz.results25 (resN_nr _ _) (fun nx cX=>?_)
 refine AW.sr envOk (fun N hN=>?_);simp-dsimp-implicitDefEqProofs (disch:=omega)only[go_sem,prs,prsP,ints,resN];refine hN _ ?_;try clear hN N
 refine AW.freezeQ 2 nx _ rfl ((upd_ne _ _ (by omega)).trans (upd_same _ _ _)) ?_
 simp-dsimp-implicitDefEqProofs (disch:=omega)only[go_sem];refine AW.freezeQ 3 (nx+1) _ rfl ((upd_ne _ _ (by omega)).trans (upd_same _ _ _)) ?_
 simp-dsimp-implicitDefEqProofs (disch:=omega)only[go_sem];refine AW.sr envOk (fun N hN=>?_);simp-dsimp-implicitDefEqProofs (disch:=omega)only[go_sem,prs,prsP,ints,resN];refine AC.pure (.of (hcd)) ?_;try simp-dsimp-implicitDefEqProofs (disch:=omega)only[go_sem,prs,prsP,ints,resN]
 refine hN _ ?_;try clear hN N
 refine AW.seq (fun N1 hN1=>?_);refine AW.sr envOk (fun N hN=>?_);simp-dsimp-implicitDefEqProofs (disch:=omega)only[go_sem,prs,prsP,ints,resN];refine hN _ ?_;try clear hN N
 refine AW.cond rfl (fun h1=>?_) (fun h1=>?_)
 ·try simp only[cn]at h1
  refine AW.sr envOk (fun N hN=>?_);simp-dsimp-implicitDefEqProofs (disch:=omega)only[go_sem,prs,prsP,ints,resN];refine hN _ ?_;try clear hN N
  refine AW.ret ?_;simp-dsimp-implicitDefEqProofs (disch:=omega)only[go_sem];have hz:ccvP OK tt (cntF pp tt.toNat)=0:=by
   rw[ccvP]
   split
   ·rename_i q
    rw[if_neg (fun q2=>h1 (by rw[←hee,cceP,if_pos q,if_pos q2]))]
   rfl
  rw[hz];rfl
 try simp only[cn]at h1
 have hee0:ee=0:=by omega
 have hok:OK∧tt≤4096:=by
  rw[cceP]at hee
  by_cases q:OK
  ·rw[tf_t q,if_pos rfl]at hee
   refine⟨q,?_⟩
   apply Classical.byContradiction
   intro hn
   rw[if_neg hn]at hee;omega
  rw[tf_f q]at hee
  simp at hee;omega
 have hok1:=hok.1
 rw[←hOK]at hok1
 obtain⟨⟨hp,hpc⟩,hq,hqc⟩:=hok1
 have hn6:=hp.1.1
 have hq1:=prd_pos hq.2.1 ot.length (Nat.le_refl _)
 have hb:=stq_bd hq1 hq.2.2.1 os.length
 rw[htt]at hb
 have htp:=spec_l16Tuples_ok os pw cj ot qw dj hn6 hq
 rw[htt]at htp
 have htu:=fun k h0 h9=>spec_l16Tuple_ok ot qw dj hq os.length (by omega) k h0 h9
 have hex:=fun k:Nat=>tupS_ex (os:=ot) (N:=prd ot ot.length) (num:=(k:Int)) (c:=os.length) hq.2.1 (by omega) hq1
 have hre:=fun k:Nat=>spec_l16Relators_ok os pw cj ot qw dj hp hq hqc (tupS ot (prd ot ot.length) os.length k) (hex k) (by rw[tup_len])
 have hpk:∀k:Nat,hldP (pc ot qw dj) (tupS ot (prd ot ot.length) os.length k) (rels os pw cj)=pp k:=fun k=>by rw[←hpp];rfl
 refine AW.skip ?_;simp only[thn,blk];refine hN1 _ ?_;try clear hN1 N1
 refine AW.sr envOk (fun N hN=>?_);simp-dsimp-implicitDefEqProofs (disch:=omega)only[go_sem,prs,prsP,ints,resN];refine hN _ ?_;try clear hN N
 refine AW.seq (fun N2 hN2=>?_);refine AW.sr envOk (fun N hN=>?_);simp-dsimp-implicitDefEqProofs (disch:=omega)only[go_sem,prs,prsP,ints,resN];refine hN _ ?_;try clear hN N
 refine AW.block ?_;refine AW.loopN (α:=Nat) (fun x=>sl 34 [(2,prsP os pw cj),(3,prsP ot qw dj),(7,.i .i64 (cntF pp x)),(8,.i .i64 x)]) (fun _=>noH) (fun x m=>x≤tt.toNat) (fun x=>tt.toNat-x) (0) ?_ ?_ (by intro d cs hd;cases hd) ?_
 ·omega
 ·simp(disch:=omega) [wks,wkA,sl,prsP,ints,rows,cubes,cntF]
 skip
 rintro k m hk
 have hcb:=cntF_bd (p:=pp) k
 simp only[prsP,ints];simp-dsimp-implicitDefEqProofs (disch:=omega)only[go_sem];refine AW.seq (fun N3 hN3=>?_);refine AW.sr envOk (fun N hN=>?_);simp-dsimp-implicitDefEqProofs (disch:=omega)only[go_sem,prs,prsP,ints,resN];refine AC.pure (.of (htp)) ?_;try simp-dsimp-implicitDefEqProofs (disch:=omega)only[go_sem,prs,prsP,ints,resN]
 refine hN _ ?_;try clear hN N
 refine AW.cond rfl (fun h2=>?_) (fun h2=>?_)
 ·try simp only[cn]at h2
  refine AW.skip ?_;simp only[thn,blk];refine hN3 _ ?_;try clear hN3 N3
  refine AW.seq (fun N4 hN4=>?_);refine AW.block ?_;refine AW.seq (fun N hN=>?_);refine AW.drawL envOk (by kernel_rfl) 9 (by kernel_rfl) ?_
  simp-dsimp-implicitDefEqProofs (disch:=omega)only[hr_nil,hr_one,hr_if,List.take_succ_cons,List.take_zero,List.drop_succ_cons,List.drop_zero,List.take_nil,List.drop_nil,go_sem,undef,prs,prsP,ints,w64,resN];refine⟨_,.of (htu k (by omega) (by omega)),?_⟩
  try simp-dsimp-implicitDefEqProofs (disch:=omega)only[go_sem,prs,prsP,ints,resN]
  refine⟨_,.of (hre k),?_⟩
  try simp-dsimp-implicitDefEqProofs (disch:=omega)only[go_sem,prs,prsP,ints,resN]
  refine hN _ ?_;try clear hN N
  refine AW.cond rfl (fun h3=>?_) (fun h3=>?_)
  ·try simp only[cn]at h3
   have hs:cntF pp (k+1)=cntF pp k+1:=by rw[cntF,if_pos (tf_t (by rw[←hpk];exact h3))]
   refine AW.regionL envOk ?_;simp-dsimp-implicitDefEqProofs (disch:=omega)only[go_sem,prs,prsP,ints,resN];refine hN4 _ ?_;try clear hN4 N4
   refine AW.regionL envOk ?_;simp-dsimp-implicitDefEqProofs (disch:=omega)only[go_sem,prs,prsP,ints,resN];refine⟨k+1,?_,fun _ _ h=>h,?_,?_⟩
   ·simp(disch:=omega) [wks,wkA,sl,prsP,ints,rows,cubes,hs]
   ·omega
   first|omega|(simp only;omega)
  try simp only[cn]at h3
  have hs:cntF pp (k+1)=cntF pp k:=by rw[cntF,if_neg (by rw[tf_f (by rw[←hpk];exact h3)];simp)]
  refine AW.skip ?_;simp only[thn,blk];refine hN4 _ ?_;try clear hN4 N4
  refine AW.regionL envOk ?_;simp-dsimp-implicitDefEqProofs (disch:=omega)only[go_sem,prs,prsP,ints,resN];refine⟨k+1,?_,fun _ _ h=>h,?_,?_⟩
  ·simp(disch:=omega) [wks,wkA,sl,prsP,ints,rows,cubes,hs]
  ·omega
  first|omega|(simp only;omega)
 try simp only[cn]at h2
 refine AW.exit ?_;simp only[thn,blk,if_true];refine hN2 _ ?_;try clear hN2 N2
 refine AW.sr envOk (fun N hN=>?_);simp-dsimp-implicitDefEqProofs (disch:=omega)only[go_sem,prs,prsP,ints,resN];refine hN _ ?_;try clear hN N
 refine AW.ret ?_;simp-dsimp-implicitDefEqProofs (disch:=omega)only[go_sem];rw[show k=tt.toNat by omega,ccvP,if_pos (tf_t hok.1),if_pos hok.2,hee0];rfl
end
end Go.Proofs.YtghmeeifjeafmaaGreat
