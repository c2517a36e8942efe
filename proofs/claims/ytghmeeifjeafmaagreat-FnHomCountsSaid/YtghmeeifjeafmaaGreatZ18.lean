import Derived.Test.YtghmeeifjeafmaaGreatZ09
import Derived.Test.YtghmeeifjeafmaaGreatZ11
import Derived.Test.YtghmeeifjeafmaaGreatZ14
import Derived.Test.YtghmeeifjeafmaaGreatZ17
set_option linter.unusedVariables false
set_option linter.unusedSimpArgs false
namespace Go.Proofs.YtghmeeifjeafmaaGreat
open Nat (reduceAdd reduceSub reduceGT reduceEqDiff reduceMul)
def nwd (e:List Int):List Int:=wdN e e.length
structure okE (e:List Int):Prop where
  n:e.length≤6
  v:∀k,k<e.length→0≤e.getD k 0∧e.getD k 0≤1000
theorem wdN_mem {e:List Int}:∀k,∀x∈wdN e k,0≤x∧x≤k:=by
  intro k
  induction k with
  |zero=>intro x hx;simp[wdN]at hx
  | succ k ih=>
    intro x hx
    rw[wdN]at hx
    rcases List.mem_append.1 hx with hx|hx
    · have:=ih x hx;omega
    rw[(List.mem_replicate.1 hx).2];omega
theorem okE.len {e:List Int} (h:okE e):(nwd e).length≤6000:=by
  have h1:=wdN_len (fun k hk=>(h.v k hk).2) e.length (Nat.le_refl _)
  have:=h.n
  unfold nwd;omega
theorem okE.bd {e:List Int} (h:okE e):∀k,k<(nwd e).length→-1048576≤(nwd e).getD k 0∧(nwd e).getD k 0≤1048576:=by
  intro k hk
  have h1:=wdN_mem (e:=e) e.length ((nwd e).getD k 0) (by
    rw[List.getD_eq_getElem?_getD,List.getElem?_eq_getElem hk]
    exact List.getElem_mem hk)
  have:=h.n
  omega
theorem presOk.pw {os:List Int} {pw:List (List Int)} {cj:List (List (List Int))} (h:presOk os pw cj) {i:Nat} (hi:i<os.length):okE (pw.getD i []):=by
  have h1:=(h.2.2.2 i hi).1
  have h6:=h.1.1
  refine⟨by rw[h1.1];exact h6,fun k hk=>?_⟩
  have h2:=(h1.2 k hk).1
  have:=pr4_bd (h.2.1 k (by rw[←h1.1];exact hk))
  omega
theorem presOk.cj {os:List Int} {pw:List (List Int)} {cj:List (List (List Int))} (h:presOk os pw cj) {i:Nat} (hi:i<os.length):(cj.getD i []).length+1+i=os.length∧∀k,k<(cj.getD i []).length→okE ((cj.getD i []).getD k []):=by
  have h0:=h.2.2.2 i hi
  have h6:=h.1.1
  refine⟨h0.2.1,fun d hd=>?_⟩
  have h1:=h0.2.2 d hd
  refine⟨by rw[h1.1];exact h6,fun k hk=>?_⟩
  have h2:=(h1.2 k hk).1
  have:=pr4_bd (h.2.1 k (by rw[←h1.1];exact hk))
  omega
def relA (os:List Int) (pw:List (List Int)) (i:Nat):List Int:=List.replicate (os.getD i 0).toNat ((i:Int)+1)++invW (nwd (pw.getD i []))
def relB (cj:List (List (List Int))) (i d:Nat):List Int:=[-(i:Int)-1,((i+1+d:Nat):Int)+1,(i:Int)+1]++invW (nwd ((cj.getD i []).getD d []))
def relsA (os:List Int) (pw:List (List Int)) (k:Nat):List (List Int):=(List.range k).map (relA os pw)
def relsB (cj:List (List (List Int))) (i k:Nat):List (List Int):=(List.range k).map (relB cj i)
def relsC (cj:List (List (List Int))) (n:Nat):Nat→List (List Int)
  |0=>[]
  |k+1=>relsC cj n k++relsB cj k (n-1-k)
def rels (os:List Int) (pw:List (List Int)) (cj:List (List (List Int))):List (List Int):=relsA os pw os.length++relsC cj os.length os.length
theorem relsA_len {os:List Int} {pw:List (List Int)} {k:Nat}:(relsA os pw k).length=k:=by simp[relsA]
theorem relsA_s {os:List Int} {pw:List (List Int)} {k:Nat}:relsA os pw (k+1)=relsA os pw k++[relA os pw k]:=by unfold relsA;rw[List.range_succ,List.map_append];rfl
theorem relsB_len {cj:List (List (List Int))} {i k:Nat}:(relsB cj i k).length=k:=by simp[relsB]
theorem relsB_s {cj:List (List (List Int))} {i k:Nat}:relsB cj i (k+1)=relsB cj i k++[relB cj i k]:=by unfold relsB;rw[List.range_succ,List.map_append];rfl
theorem relsC_len {cj:List (List (List Int))} {n:Nat}:∀k,k≤n→(relsC cj n k).length≤n*k:=by
  intro k
  induction k with
  |zero=>intro _;simp[relsC]
  | succ k ih=>
    intro hk
    have:=ih (by omega)
    rw[relsC,List.length_append,relsB_len,Nat.mul_succ]
    omega
theorem relA_len {os:List Int} {pw:List (List Int)} {cj:List (List (List Int))} (h:presOk os pw cj) {i:Nat} (hi:i<os.length):(relA os pw i).length≤7000:=by
  have h1:=(h.pw hi).len
  have:=pr4_bd (h.2.1 i hi)
  unfold relA
  rw[List.length_append,List.length_replicate,invW_len];omega
theorem relB_len {os:List Int} {pw:List (List Int)} {cj:List (List (List Int))} (h:presOk os pw cj) {i d:Nat} (hi:i<os.length) (hd:d<(cj.getD i []).length):(relB cj i d).length≤7000:=by
  have h1:=((h.cj hi).2 d hd).len
  unfold relB
  rw[List.length_append,invW_len]
  simp only[List.length_cons,List.length_nil]
  omega
theorem relsC_mem {os:List Int} {pw:List (List Int)} {cj:List (List (List Int))} (h:presOk os pw cj):∀k,k≤os.length→∀x∈relsC cj os.length k,x.length≤7000:=by
  intro k
  induction k with
  |zero=>intro _ x hx;simp[relsC]at hx
  | succ k ih=>
    intro hk x hx
    rw[relsC]at hx
    rcases List.mem_append.1 hx with hx|hx
    · exact ih (by omega) x hx
    unfold relsB at hx
    obtain⟨d,hd,rfl⟩:=List.mem_map.1 hx
    rw[List.mem_range]at hd
    have:=(h.cj (i:=k) (by omega)).1
    exact relB_len h (by omega) (by omega)
theorem rels_rl {os:List Int} {pw:List (List Int)} {cj:List (List (List Int))} (h:presOk os pw cj):rowslen (rels os pw cj):=by
  have h6:=h.1.1
  refine⟨?_,fun x hx=>?_⟩
  · unfold rels
    have:=relsC_len (cj:=cj) (n:=os.length) os.length (Nat.le_refl _)
    have h2:os.length*os.length≤6*6:=Nat.mul_le_mul h6 h6
    rw[List.length_append,relsA_len];omega
  unfold rels at hx
  rcases List.mem_append.1 hx with hx|hx
  · unfold relsA at hx
    obtain⟨d,hd,rfl⟩:=List.mem_map.1 hx
    rw[List.mem_range]at hd
    have:=relA_len h hd;omega
  have:=relsC_mem h _ (Nat.le_refl _) x hx;omega
theorem AW.fzrw {cX:Ctx} {P:Program} {c:Code} {s:St} {K:Exit→St→Prop} (i j n:Nat) (W:List (List Int)) (x:List Int) {xs ds:List AV} (h1:s.H i=some xs) (hxs:xs=W.map ints++[.h j 0 n]) (h2:s.H j=some ds) (hds:ds=x.map (.i .i64)) (hn:n=x.length) (hij:i≠j)
    (hs:AW cX P c ⟨s.t,upd (upd s.H j none) i (some ((W++[x]).map ints)),s.nx⟩ K):AW cX P c s K:=by
  subst hxs hds hn
  refine AW.fzpush i j x.length (W.map ints) (x.map (.i .i64)) h1 h2 (by simp) hij ?_
  rw[List.map_append]at hs
  exact hs
theorem tk_rep {α:Type} {f:α→AV} {n:Nat} {a:α}:List.take n (List.map f (List.replicate n a))=List.map f (List.replicate n a):=List.take_of_length_le (by simp)
theorem one_hq (a b c:Nat):(∀z∈ [AV.h a b c],one z=true)=True:=one_list rfl
set_option maxHeartbeats 1000000 in
theorem spec_l07Relators_ok (os:List Int) (pw:List (List Int)) (cj:List (List (List Int))) (h:presOk os pw cj):ACp Tryz.prog 61 [prs os pw cj] (rows (rels os pw cj)):=by
 have hn6:=h.1.1
 have hpl:=h.1.2.1
 have hcl:=h.1.2.2
 refine ACp.introV envOk Tryz.func61 rfl (by kernel_rfl) Tryz.ntmps61 Tryz.results61 ((rows_nr _)) (fun nx cX=>?_)
 refine AW.sr envOk (fun N hN=>?_);simp-dsimp-implicitDefEqProofs (maxSteps:=800000) (disch:=omega)only[go_sem,prs,ints,rows,cubes,gd_i,gd_r,gd_c,one_hq];refine hN _ ?_;try clear hN N
 refine AW.freezeQ 1 nx _ rfl (upd_same _ _ _) ?_
 simp-dsimp-implicitDefEqProofs (maxSteps:=800000) (disch:=omega)only[go_sem];refine AW.sr envOk (fun N hN=>?_);simp-dsimp-implicitDefEqProofs (maxSteps:=800000) (disch:=omega)only[go_sem,prs,ints,rows,cubes,gd_i,gd_r,gd_c,one_hq];refine hN _ ?_;try clear hN N
 refine AW.sr envOk (fun N hN=>?_);simp-dsimp-implicitDefEqProofs (maxSteps:=800000) (disch:=omega)only[go_sem,prs,ints,rows,cubes,gd_i,gd_r,gd_c,one_hq];refine hN _ ?_;try clear hN N
 refine AW.seq (fun N1 hN1=>?_);refine AW.sr envOk (fun N hN=>?_);simp-dsimp-implicitDefEqProofs (maxSteps:=800000) (disch:=omega)only[go_sem,prs,ints,rows,cubes,gd_i,gd_r,gd_c,one_hq];refine hN _ ?_;try clear hN N
 refine AW.block ?_;refine AW.loopN (α:=Nat×Nat) (fun x=>sl 86 [(1,.p 0 [ints os,rows pw,cubes cj]),(3,.h x.2 0 x.1),(4,.i .i64 os.length),(5,.i .i64 x.1)]) (fun x=>upd noH x.2 (some ((relsA os pw x.1).map ints))) (fun x m=>x.1≤os.length∧x.2<m) (fun x=>os.length-x.1) ((0,nx+2)) ?_ ?_ (by intro d cs hd;simp only[upd,noH,relsA,List.range_zero,List.map_nil]at hd ⊢;grind) ?_
 ·exact⟨by omega,by first|omega|(simp only;omega)|(dsimp only;omega)⟩
 ·simp(disch:=omega) [wks,wkA,sl,w64,ints,rows,cubes,prs,ints,rows,cubes,gd_i,gd_r,gd_c,w64,one_hq]<;>omega
 skip
 rintro⟨k,id⟩ m ⟨hk,hid⟩
 dsimp only at hk hid ⊢
 refine AW.seq (fun N2 hN2=>?_);refine AW.sr envOk (fun N hN=>?_);simp-dsimp-implicitDefEqProofs (maxSteps:=800000) (disch:=omega)only[go_sem,prs,ints,rows,cubes,gd_i,gd_r,gd_c,one_hq];refine hN _ ?_;try clear hN N
 refine AW.cond rfl (fun h1=>?_) (fun h1=>?_)
 ·try simp only[cn]at h1
  have hko:=h.pw (i:=k) (by omega)
  have hok:=pr4_bd (h.2.1 k (by omega))
  have hwl:(invW (wdN (pw.getD k []) (pw.getD k []).length)).length≤6000:=by rw[invW_len];exact hko.len
  have hrl:(relsA os pw k).length=k:=relsA_len
  refine AW.skip ?_;simp only[thn,blk];refine hN2 _ ?_;try clear hN2 N2
  refine AW.seq (fun N3 hN3=>?_);refine AW.block ?_;refine AW.sr envOk (fun N hN=>?_);simp-dsimp-implicitDefEqProofs (maxSteps:=800000) (disch:=omega)only[go_sem,prs,ints,rows,cubes,gd_i,gd_r,gd_c,one_hq];refine hN _ ?_;try clear hN N
  refine AW.seq (fun N4 hN4=>?_);refine AW.sr envOk (fun N hN=>?_);simp-dsimp-implicitDefEqProofs (maxSteps:=800000) (disch:=omega)only[go_sem,prs,ints,rows,cubes,gd_i,gd_r,gd_c,one_hq];refine hN _ ?_;try clear hN N
  refine AW.block ?_;refine AW.loopN (α:=Nat×Nat) (fun x=>sl 86 [(1,.p 0 [ints os,rows pw,cubes cj]),(3,.h id 0 k),(4,.i .i64 os.length),(5,.i .i64 k),(6,.h x.2 0 x.1),(7,.i .i64 x.1)]) (fun x=>upd (upd noH id (some ((relsA os pw k).map ints))) x.2 (some ((List.replicate x.1 ((k:Int)+1)).map (.i .i64)))) (fun x m=>(x.1:Int)≤os.getD k 0∧x.2<m∧id<x.2) (fun x=>(os.getD k 0).toNat-x.1) ((0,m+3)) ?_ ?_ (by intro d cs hd;simp only[upd,noH,List.replicate_zero,List.map_nil]at hd ⊢;grind) ?_
  ·exact⟨by omega,by first|omega|(simp only;omega)|(dsimp only;omega),by first|omega|(simp only;omega)|(dsimp only;omega)⟩
  ·simp(disch:=omega) [wks,wkA,sl,w64,ints,rows,cubes,prs,ints,rows,cubes,gd_i,gd_r,gd_c,w64,one_hq]<;>omega
  skip
  rintro⟨j,id2⟩ m2 ⟨hj,hid2,hid3⟩
  dsimp only at hj hid2 hid3 ⊢
  refine AW.seq (fun N5 hN5=>?_);refine AW.sr envOk (fun N hN=>?_);simp-dsimp-implicitDefEqProofs (maxSteps:=800000) (disch:=omega)only[go_sem,prs,ints,rows,cubes,gd_i,gd_r,gd_c,one_hq];refine hN _ ?_;try clear hN N
  refine AW.cond rfl (fun h2=>?_) (fun h2=>?_)
  ·try simp only[cn]at h2
   refine AW.skip ?_;simp only[thn,blk];refine hN5 _ ?_;try clear hN5 N5
   refine AW.seq (fun N6 hN6=>?_);refine AW.block ?_;refine AW.regionL envOk ?_;simp-dsimp-implicitDefEqProofs (maxSteps:=800000) (disch:=omega)only[go_sem,prs,ints,rows,cubes,gd_i,gd_r,gd_c,one_hq];refine hN6 _ ?_;try clear hN6 N6
   refine AW.regionL envOk ?_;simp-dsimp-implicitDefEqProofs (maxSteps:=800000) (disch:=omega)only[go_sem,prs,ints,rows,cubes,gd_i,gd_r,gd_c,one_hq];refine⟨(j+1,m2+7+4),?_,by rw[rep_next];intro d cs hd;simp only[upd,noH,tk_rep,List.map_append,List.map_cons,List.map_nil]at hd ⊢;grind,?_,?_⟩
   ·simp(disch:=omega) [wks,wkA,sl,w64,ints,rows,cubes,prs,ints,rows,cubes,gd_i,gd_r,gd_c,w64,one_hq]<;>omega
   ·exact⟨by omega,by first|omega|(simp only;omega)|(dsimp only;omega),by first|omega|(simp only;omega)|(dsimp only;omega)⟩
   first|omega|(simp only;omega)
  try simp only[cn]at h2
  refine AW.exit ?_;simp only[thn,blk,if_true];refine hN4 _ ?_;try clear hN4 N4
  refine AW.regionL envOk ?_;simp-dsimp-implicitDefEqProofs (maxSteps:=800000) (disch:=omega)only[go_sem,prs,ints,rows,cubes,gd_i,gd_r,gd_c,one_hq];refine AC.pure (.of (spec_l07Word_ok (pw.getD k []) (by have:=hko.n;omega) hko.v)) ?_
  try simp-dsimp-implicitDefEqProofs (maxSteps:=800000) (disch:=omega)only[go_sem,prs,ints,rows,cubes,gd_i,gd_r,gd_c,one_hq]
  refine AC.pure (.of (spec_l06Invert_ok (wdN (pw.getD k []) (pw.getD k []).length) (by have:=hko.len;unfold nwd at this;omega) hko.bd)) ?_
  try simp-dsimp-implicitDefEqProofs (maxSteps:=800000) (disch:=omega)only[go_sem,prs,ints,rows,cubes,gd_i,gd_r,gd_c,one_hq]
  refine hN3 _ ?_;try clear hN3 N3
  have hj':j=(os.getD k 0).toNat:=by omega
  refine AW.fzrw (m2+7+11) (m2+7+9) (j+(invW (wdN (pw.getD k []) (pw.getD k []).length)).length) (relsA os pw k) (relA os pw k) (upd_same _ _ _) (by rw[List.take_of_length_le (by rw[List.length_map,relsA_len];exact Nat.le_refl _)]) ((upd_ne _ _ (by omega)).trans ((upd_ne _ _ (by omega)).trans ((upd_ne _ _ (by omega)).trans (upd_same _ _ _)))) ?_ (by unfold relA;rw[List.length_append,List.length_replicate,←hj'];rfl) (by omega) ?_
  ·rw[tk_rep,←List.map_append,hj'];rfl
  rw[←relsA_s]
  simp-dsimp-implicitDefEqProofs (maxSteps:=800000) (disch:=omega)only[go_sem];refine AW.regionL envOk ?_;simp-dsimp-implicitDefEqProofs (maxSteps:=800000) (disch:=omega)only[go_sem,prs,ints,rows,cubes,gd_i,gd_r,gd_c,one_hq];refine⟨(k+1,m2+7+11),?_,by intro d cs hd;simp only[upd,noH]at hd ⊢;grind,?_,?_⟩
  ·simp(disch:=omega) [wks,wkA,sl,w64,ints,rows,cubes,prs,ints,rows,cubes,gd_i,gd_r,gd_c,w64,one_hq]<;>omega
  ·exact⟨by omega,by first|omega|(simp only;omega)|(dsimp only;omega)⟩
  first|omega|(simp only;omega)
 try simp only[cn]at h1
 refine AW.exit ?_;simp only[thn,blk,if_true];refine hN1 _ ?_;try clear hN1 N1
 refine AW.seq (fun N7 hN7=>?_);refine AW.sr envOk (fun N hN=>?_);simp-dsimp-implicitDefEqProofs (maxSteps:=800000) (disch:=omega)only[go_sem,prs,ints,rows,cubes,gd_i,gd_r,gd_c,one_hq];refine hN _ ?_;try clear hN N
 refine AW.block ?_;refine AW.loopN (α:=Nat×Nat) (fun x=>sl 86 [(1,.p 0 [ints os,rows pw,cubes cj]),(3,.h x.2 0 (os.length+(relsC cj os.length x.1).length)),(4,.i .i64 os.length),(8,.i .i64 x.1)]) (fun x=>upd noH x.2 (some ((relsA os pw os.length++relsC cj os.length x.1).map ints))) (fun x m=>x.1≤os.length∧x.2<m) (fun x=>os.length-x.1) ((0,id)) ?_ ?_ (by rw[show k=os.length by omega];simp only[relsC,List.append_nil];exact Le.refl _) ?_
 ·exact⟨by omega,by first|omega|(simp only;omega)|(dsimp only;omega)⟩
 ·simp[wks,wkA,sl,ints,rows,cubes,relsC];try omega
 skip
 rintro⟨i,q⟩ m3 ⟨hi,hq⟩
 dsimp only at hi hq ⊢
 refine AW.seq (fun N8 hN8=>?_);refine AW.sr envOk (fun N hN=>?_);simp-dsimp-implicitDefEqProofs (maxSteps:=800000) (disch:=omega)only[go_sem,prs,ints,rows,cubes,gd_i,gd_r,gd_c,one_hq];refine hN _ ?_;try clear hN N
 refine AW.cond rfl (fun h3=>?_) (fun h3=>?_)
 ·try simp only[cn]at h3
  have hci:=h.cj (i:=i) (by omega)
  have hcl2:=relsC_len (cj:=cj) (n:=os.length) i (by omega)
  have hcl3:os.length*i≤6*6:=Nat.mul_le_mul hn6 (by omega)
  refine AW.skip ?_;simp only[thn,blk];refine hN8 _ ?_;try clear hN8 N8
  refine AW.seq (fun N9 hN9=>?_);refine AW.block ?_;refine AW.sr envOk (fun N hN=>?_);simp-dsimp-implicitDefEqProofs (maxSteps:=800000) (disch:=omega)only[go_sem,prs,ints,rows,cubes,gd_i,gd_r,gd_c,one_hq];refine hN _ ?_;try clear hN N
  refine AW.block ?_;refine AW.loopN (α:=Nat×Nat) (fun x=>sl 86 [(1,.p 0 [ints os,rows pw,cubes cj]),(3,.h x.2 0 (os.length+(relsC cj os.length i).length+x.1)),(4,.i .i64 os.length),(8,.i .i64 i),(9,.i .i64 ((i+1+x.1:Nat):Int))]) (fun x=>upd noH x.2 (some ((relsA os pw os.length++relsC cj os.length i++relsB cj i x.1).map ints))) (fun x m=>i+1+x.1≤os.length∧x.2<m) (fun x=>os.length-x.1) ((0,q)) ?_ ?_ (by simp only[relsB,List.range_zero,List.map_nil,List.append_nil];exact Le.refl _) ?_
  ·exact⟨by omega,by first|omega|(simp only;omega)|(dsimp only;omega)⟩
  ·simp(disch:=omega) [wks,wkA,sl,w64,ints,rows,cubes,prs,ints,rows,cubes,gd_i,gd_r,gd_c,w64,one_hq]<;>omega
  skip
  rintro⟨d,q2⟩ m4 ⟨hd,hq2⟩
  dsimp only at hd hq2 ⊢
  refine AW.seq (fun N10 hN10=>?_);refine AW.sr envOk (fun N hN=>?_);simp-dsimp-implicitDefEqProofs (maxSteps:=800000) (disch:=omega)only[go_sem,prs,ints,rows,cubes,gd_i,gd_r,gd_c,one_hq];refine hN _ ?_;try clear hN N
  refine AW.cond rfl (fun h4=>?_) (fun h4=>?_)
  ·try simp only[cn]at h4
   have hko:=hci.2 d (by omega)
   have hwl:(invW (wdN ((cj.getD i []).getD d []) ((cj.getD i []).getD d []).length)).length≤6000:=by rw[invW_len];exact hko.len
   have e1:(((i+1+d:Nat):Int)-i-1).toNat=d:=by omega
   have hrl:(relsA os pw os.length++relsC cj os.length i++relsB cj i d).length=os.length+(relsC cj os.length i).length+d:=by rw[List.length_append,List.length_append,relsA_len,relsB_len]
   have hla:(relsA os pw os.length).length=os.length:=relsA_len
   have hlb:(relsB cj i d).length=d:=relsB_len
   refine AW.skip ?_;simp only[thn,blk];refine hN10 _ ?_;try clear hN10 N10
   refine AW.seq (fun N11 hN11=>?_);refine AW.block ?_;refine AW.sr envOk (fun N hN=>?_);simp-dsimp-implicitDefEqProofs (maxSteps:=800000) (disch:=omega)only[go_sem,prs,ints,rows,cubes,gd_i,gd_r,gd_c,one_hq];refine hN _ ?_;try clear hN N
   refine AW.regionL envOk ?_;simp-dsimp-implicitDefEqProofs (maxSteps:=800000) (disch:=omega)only[go_sem,prs,ints,rows,cubes,gd_i,gd_r,gd_c,one_hq,e1];refine AC.pure (.of (spec_l07Word_ok ((cj.getD i []).getD d []) (by have:=hko.n;omega) hko.v)) ?_
   try simp-dsimp-implicitDefEqProofs (maxSteps:=800000) (disch:=omega)only[go_sem,prs,ints,rows,cubes,gd_i,gd_r,gd_c,one_hq]
   refine AC.pure (.of (spec_l06Invert_ok (wdN ((cj.getD i []).getD d []) ((cj.getD i []).getD d []).length) (by have:=hko.len;unfold nwd at this;omega) hko.bd)) ?_
   try simp-dsimp-implicitDefEqProofs (maxSteps:=800000) (disch:=omega)only[go_sem,prs,ints,rows,cubes,gd_i,gd_r,gd_c,one_hq]
   refine hN11 _ ?_;try clear hN11 N11
   refine AW.fzrw (m4+3+9+17) (m4+3+9+15) (3+(invW (wdN ((cj.getD i []).getD d []) ((cj.getD i []).getD d []).length)).length) (relsA os pw os.length++relsC cj os.length i++relsB cj i d) (relB cj i d) (upd_same _ _ _) (by rw[List.take_of_length_le (by rw[List.length_map,hrl];exact Nat.le_refl _)]) ((upd_ne _ _ (by omega)).trans ((upd_ne _ _ (by omega)).trans ((upd_ne _ _ (by omega)).trans (upd_same _ _ _)))) ?_ (by unfold relB nwd;rw[List.length_append];rfl) (by omega) ?_
   ·simp only[relB,nwd,List.map_append,List.map_cons,List.map_nil,Int.zero_sub];rfl
   rw[show relsA os pw os.length++relsC cj os.length i++relsB cj i d++[relB cj i d]=relsA os pw os.length++relsC cj os.length i++relsB cj i (d+1)from by rw[List.append_assoc,←relsB_s]]
   simp-dsimp-implicitDefEqProofs (maxSteps:=800000) (disch:=omega)only[go_sem];refine AW.regionL envOk ?_;simp-dsimp-implicitDefEqProofs (maxSteps:=800000) (disch:=omega)only[go_sem,prs,ints,rows,cubes,gd_i,gd_r,gd_c,one_hq];refine⟨(d+1,m4+3+9+17),?_,by intro d cs hd;simp only[upd,noH]at hd ⊢;grind,?_,?_⟩
   ·simp(disch:=omega) [wks,wkA,sl,w64,ints,rows,cubes,prs,ints,rows,cubes,gd_i,gd_r,gd_c,w64,one_hq]<;>omega
   ·exact⟨by omega,by first|omega|(simp only;omega)|(dsimp only;omega)⟩
   first|omega|(simp only;omega)
  try simp only[cn]at h4
  refine AW.exit ?_;simp only[thn,blk,if_true];refine hN9 _ ?_;try clear hN9 N9
  refine AW.regionL envOk ?_;simp-dsimp-implicitDefEqProofs (maxSteps:=800000) (disch:=omega)only[go_sem,prs,ints,rows,cubes,gd_i,gd_r,gd_c,one_hq];have e3:relsC cj os.length (i+1)=relsC cj os.length i++relsB cj i d:=by rw[relsC,show os.length-1-i=d by omega]
  refine⟨(i+1,q2),?_,by simp only[e3,List.append_assoc];exact Le.refl _,?_,?_⟩
  ·simp(disch:=omega) [wks,wkA,sl,w64,ints,rows,cubes,e3,relsB_len]<;>omega
  ·exact⟨by omega,by first|omega|(simp only;omega)|(dsimp only;omega)⟩
  first|omega|(simp only;omega)
 try simp only[cn]at h3
 refine AW.exit ?_;simp only[thn,blk,if_true];refine hN7 _ ?_;try clear hN7 N7
 refine AW.sr envOk (fun N hN=>?_);simp-dsimp-implicitDefEqProofs (maxSteps:=800000) (disch:=omega)only[go_sem,prs,ints,rows,cubes,gd_i,gd_r,gd_c,one_hq];refine hN _ ?_;try clear hN N
 refine AW.ret ?_;simp-dsimp-implicitDefEqProofs (maxSteps:=800000) (disch:=omega)only[go_sem];obtain rfl:i=os.length:=by omega
 exact Vw.rws (by unfold rels;rw[List.length_append,relsA_len]) (upd_same _ _ _)
open Nat (reduceAdd reduceSub reduceGT reduceEqDiff reduceMul)
def wordP (g:Int) (w:List Int):Prop:=w.length≤64∧∀j,j<w.length→w.getD j 0≠0∧-g≤w.getD j 0∧w.getD j 0≤g
def fpP (g:Int) (rs:List (List Int)):Prop:=(0≤g∧g≤4)∧rs.length≤12∧∀k,k<rs.length→wordP g (rs.getD k [])
def fp (g:Int) (rs:List (List Int)):AV:= .g [.i .i64 g,rows rs]
theorem impl_wordFits_ok (g:Int) (w:List Int) (hg:0≤g∧g≤1000) (hw:w.length≤1099511627776):ACp Tryz.prog 110 [.i .i64 g,ints w] (.b (tf (wordP g w))):=by
 refine ACp.intro' envOk Tryz.func110 rfl (by kernel_rfl) Tryz.ntmps110 Tryz.results110 (.b _) (fun nx cX=>?_)
 refine AW.sr envOk (fun N hN=>?_);simp-dsimp-implicitDefEqProofs (disch:=omega)only[go_sem,ints,gd_i];refine hN _ ?_;try clear hN N
 refine AW.seq (fun N1 hN1=>?_);refine AW.sr envOk (fun N hN=>?_);simp-dsimp-implicitDefEqProofs (disch:=omega)only[go_sem,ints,gd_i];refine hN _ ?_;try clear hN N
 refine AW.block ?_;refine AW.loopN (α:=Nat) (fun x=>sl 27 [(0,.i .i64 g),(1,ints w),(7,ints w),(8,.i .i64 w.length),(9,.i .i64 x)]) (fun _=>noH) (fun x m=>x≤w.length∧∀j,j<x→w.getD j 0≠0∧-g≤w.getD j 0∧w.getD j 0≤g) (fun x=>w.length-x) (0) ?_ ?_ (fun _ _ h=>h) ?_
 ·exact⟨by omega,by intro j hj;omega⟩
 ·simp(disch:=omega) [wks,wkA,sl,w64,ints,rows,cubes,ints,gd_i,w64]<;>omega
 skip
 rintro k m ⟨hk,hI⟩
 simp-dsimp-implicitDefEqProofs (disch:=omega)only[go_sem];refine AW.sr envOk (fun N hN=>?_);simp-dsimp-implicitDefEqProofs (disch:=omega)only[go_sem,ints,gd_i];refine hN _ ?_;try clear hN N
 refine AW.seq (fun N2 hN2=>?_);refine AW.cond rfl (fun h1=>?_) (fun h1=>?_)
 ·try simp only[cn]at h1
  refine AW.skip ?_;simp only[thn,blk];refine hN2 _ ?_;try clear hN2 N2
  refine AW.seq (fun N3 hN3=>?_);refine AW.block ?_;refine AW.sr envOk (fun N hN=>?_);simp-dsimp-implicitDefEqProofs (disch:=omega)only[go_sem,ints,gd_i];refine hN _ ?_;try clear hN N
  refine AW.sr envOk (fun N hN=>?_);simp-dsimp-implicitDefEqProofs (disch:=omega)only[go_sem,ints,gd_i];refine gopB.mk' (fun h2=>?_) (fun h2=>?_)
  ·try simp only[cn]at h2
   try simp-dsimp-implicitDefEqProofs (disch:=omega)only[go_sem,ints,gd_i]
   refine AC.pure (.of (impl_inside_ok _ _ _)) ?_;try simp-dsimp-implicitDefEqProofs (disch:=omega)only[go_sem,ints,gd_i]
   refine hN _ ?_;try clear hN N
   refine AW.cond rfl (fun h3=>?_) (fun h3=>?_)
   ·try simp only[cn]at h3
    refine AW.sr envOk (fun N hN=>?_);simp-dsimp-implicitDefEqProofs (disch:=omega)only[go_sem,ints,gd_i];refine hN _ ?_;try clear hN N
    refine AW.ret ?_;simp-dsimp-implicitDefEqProofs (disch:=omega)only[go_sem];exact bt (tf_f (fun h=>h3 (by have:=(h.2 k (by omega)).2;omega))).symm
   try simp only[cn]at h3
   refine AW.skip ?_;simp only[thn,blk];refine hN3 _ ?_;try clear hN3 N3
   refine AW.regionL envOk ?_;simp-dsimp-implicitDefEqProofs (disch:=omega)only[go_sem,ints,gd_i];refine⟨k+1,?_,fun _ _ h=>h,?_,?_⟩
   ·simp(disch:=omega) [wks,wkA,sl,w64,ints,rows,cubes,ints,gd_i,w64]<;>omega
   ·refine⟨by omega,fun j hj=>?_⟩
    by_cases e:j=k
    ·subst e;exact⟨h2,by omega⟩
    exact hI j (by omega)
   first|omega|(simp only;omega)
  try simp only[cn]at h2
  try simp-dsimp-implicitDefEqProofs (disch:=omega)only[go_sem,ints,gd_i]
  refine hN _ ?_;try clear hN N
  refine AW.condT rfl ?_;refine AW.sr envOk (fun N hN=>?_);simp-dsimp-implicitDefEqProofs (disch:=omega)only[go_sem,ints,gd_i];refine hN _ ?_;try clear hN N
  refine AW.ret ?_;simp-dsimp-implicitDefEqProofs (disch:=omega)only[go_sem];exact bt (tf_f (fun h=>(h.2 k (by omega)).1 h2)).symm
 try simp only[cn]at h1
 refine AW.exit ?_;simp only[thn,blk,if_true];refine hN1 _ ?_;try clear hN1 N1
 refine AW.sr envOk (fun N hN=>?_);simp-dsimp-implicitDefEqProofs (disch:=omega)only[go_sem,ints,gd_i];refine hN _ ?_;try clear hN N
 refine AW.ret ?_;simp-dsimp-implicitDefEqProofs (disch:=omega)only[go_sem];refine bt ?_
 by_cases hc:w.length≤64
 ·rw[tf_t ⟨hc,fun j hj=>hI j (by omega)⟩];simp;omega
 rw[tf_f (fun h=>hc h.1)];simp;omega
theorem impl_gensFit_ok (k:Int):ACp Tryz.prog 109 [.i .i64 k] (.b (tf (0≤k∧k≤6))):=by
 refine ACp.intro' envOk Tryz.func109 rfl (by kernel_rfl) Tryz.ntmps109 Tryz.results109 (.b _) (fun nx cX=>?_)
 refine AW.sr envOk (fun N hN=>?_);simp-dsimp-implicitDefEqProofs (disch:=omega)only[go_sem,];refine hN _ ?_;try clear hN N
 refine AW.sr envOk (fun N hN=>?_);simp-dsimp-implicitDefEqProofs (disch:=omega)only[go_sem,];refine AC.pure (.of (impl_inside_ok _ _ _)) ?_;try simp-dsimp-implicitDefEqProofs (disch:=omega)only[go_sem,]
 refine hN _ ?_;try clear hN N
 refine AW.ret ?_;simp-dsimp-implicitDefEqProofs (disch:=omega)only[go_sem];skip
def codeB:Bool→Int
  |true=>0
  |false=>1
noncomputable def codeW (g:Int) (rs:List (List Int)):Int:=codeB (tf (∀k,k<rs.length→wordP g (rs.getD k [])))
theorem impl_wordCode_ok (g:Int) (rs:List (List Int)) (hg:0≤g∧g≤6) (hr:rowslen rs):ACp Tryz.prog 71 [.i .i64 g,rows rs] (.i .i64 (codeW g rs)):=by
 have hn:=hr.n
 refine ACp.intro' envOk Tryz.func71 rfl (by kernel_rfl) Tryz.ntmps71 Tryz.results71 (.i _ _) (fun nx cX=>?_)
 refine AW.sr envOk (fun N hN=>?_);simp-dsimp-implicitDefEqProofs (disch:=omega)only[go_sem,rows,gd_r];refine hN _ ?_;try clear hN N
 refine AW.seq (fun N1 hN1=>?_);refine AW.sr envOk (fun N hN=>?_);simp-dsimp-implicitDefEqProofs (disch:=omega)only[go_sem,rows,gd_r];refine AC.pure (.of (impl_gensFit_ok _)) ?_;try simp-dsimp-implicitDefEqProofs (disch:=omega)only[go_sem,rows,gd_r]
 refine hN _ ?_;try clear hN N
 refine AW.cond rfl (fun h1=>?_) (fun h1=>?_)
 ·try simp only[cn]at h1
  refine AW.sr envOk (fun N hN=>?_);simp-dsimp-implicitDefEqProofs (disch:=omega)only[go_sem,rows,gd_r];refine hN _ ?_;try clear hN N
  refine AW.ret ?_;simp-dsimp-implicitDefEqProofs (disch:=omega)only[go_sem];exact absurd hg (by omega)
 try simp only[cn]at h1
 refine AW.skip ?_;simp only[thn,blk];refine hN1 _ ?_;try clear hN1 N1
 refine AW.seq (fun N2 hN2=>?_);refine AW.sr envOk (fun N hN=>?_);simp-dsimp-implicitDefEqProofs (disch:=omega)only[go_sem,rows,gd_r];refine hN _ ?_;try clear hN N
 refine AW.block ?_;refine AW.loopN (α:=Nat) (fun x=>sl 21 [(0,.i .i64 g),(10,rows rs),(11,.i .i64 rs.length),(12,.i .i64 x)]) (fun _=>noH) (fun x m=>x≤rs.length∧(∀j,j<x→wordP g (rs.getD j []))) (fun x=>rs.length-x) (0) ?_ ?_ (fun _ _ h=>h) ?_
 ·exact⟨by omega,by intro j hj;omega⟩
 ·simp(disch:=omega) [wks,wkA,sl,w64,ints,rows,cubes,rows,gd_r,w64]<;>omega
 skip
 rintro k m ⟨hk,hI⟩
 simp-dsimp-implicitDefEqProofs (disch:=omega)only[go_sem];refine AW.sr envOk (fun N hN=>?_);simp-dsimp-implicitDefEqProofs (disch:=omega)only[go_sem,rows,gd_r];refine hN _ ?_;try clear hN N
 refine AW.seq (fun N3 hN3=>?_);refine AW.cond rfl (fun h2=>?_) (fun h2=>?_)
 ·try simp only[cn]at h2
  refine AW.skip ?_;simp only[thn,blk];refine hN3 _ ?_;try clear hN3 N3
  refine AW.seq (fun N4 hN4=>?_);refine AW.block ?_;refine AW.sr envOk (fun N hN=>?_);simp-dsimp-implicitDefEqProofs (disch:=omega)only[go_sem,rows,gd_r];refine hN _ ?_;try clear hN N
  refine AW.sr envOk (fun N hN=>?_);simp-dsimp-implicitDefEqProofs (disch:=omega)only[go_sem,rows,gd_r];refine AC.pure (.of (impl_wordFits_ok g (rs.getD k []) ⟨hg.1,by omega⟩ (by have:=hr.getD k;omega))) ?_
  try simp-dsimp-implicitDefEqProofs (disch:=omega)only[go_sem,rows,gd_r]
  refine hN _ ?_;try clear hN N
  refine AW.cond rfl (fun h3=>?_) (fun h3=>?_)
  ·try simp only[cn]at h3
   refine AW.sr envOk (fun N hN=>?_);simp-dsimp-implicitDefEqProofs (disch:=omega)only[go_sem,rows,gd_r];refine hN _ ?_;try clear hN N
   refine AW.ret ?_;simp-dsimp-implicitDefEqProofs (disch:=omega)only[go_sem];rw[codeW,tf_f (fun h=>h3 (h k (by omega)))];rfl
  try simp only[cn]at h3
  refine AW.skip ?_;simp only[thn,blk];refine hN4 _ ?_;try clear hN4 N4
  refine AW.regionL envOk ?_;simp-dsimp-implicitDefEqProofs (disch:=omega)only[go_sem,rows,gd_r];refine⟨k+1,?_,fun _ _ h=>h,?_,?_⟩
  ·simp(disch:=omega) [wks,wkA,sl,w64,ints,rows,cubes,rows,gd_r,w64]<;>omega
  ·refine⟨by omega,fun j hj=>?_⟩
   by_cases e:j=k
   ·subst e;exact h3
   exact hI j (by omega)
  first|omega|(simp only;omega)
 try simp only[cn]at h2
 refine AW.exit ?_;simp only[thn,blk,if_true];refine hN2 _ ?_;try clear hN2 N2
 refine AW.sr envOk (fun N hN=>?_);simp-dsimp-implicitDefEqProofs (disch:=omega)only[go_sem,rows,gd_r];refine hN _ ?_;try clear hN N
 refine AW.ret ?_;simp-dsimp-implicitDefEqProofs (disch:=omega)only[go_sem];rw[codeW,tf_t (fun j hj=>hI j (by omega))];rfl
theorem impl_IsFpGroup_ok (g:Int) (rs:List (List Int)) (hr:rowslen rs):ACp Tryz.prog 33 [fp g rs] (.b (tf (fpP g rs))):=by
 have hn:=hr.n
 refine ACp.intro' envOk Tryz.func33 rfl (by kernel_rfl) Tryz.ntmps33 Tryz.results33 (.b _) (fun nx cX=>?_)
 refine AW.sr envOk (fun N hN=>?_);simp-dsimp-implicitDefEqProofs (disch:=omega)only[go_sem,fp,rows,gd_r];refine hN _ ?_;try clear hN N
 refine AW.seq (fun N1 hN1=>?_);refine AW.sr envOk (fun N hN=>?_);simp-dsimp-implicitDefEqProofs (disch:=omega)only[go_sem,fp,rows,gd_r];refine AC.pure (.of (impl_inside_ok _ _ _)) ?_;try simp-dsimp-implicitDefEqProofs (disch:=omega)only[go_sem,fp,rows,gd_r]
 refine gopB.mk' (fun h1=>?_) (fun h1=>?_)
 ·try simp only[cn]at h1
  try simp-dsimp-implicitDefEqProofs (disch:=omega)only[go_sem,fp,rows,gd_r]
  refine hN _ ?_;try clear hN N
  refine AW.cond rfl (fun h2=>?_) (fun h2=>?_)
  ·try simp only[cn]at h2
   refine AW.sr envOk (fun N hN=>?_);simp-dsimp-implicitDefEqProofs (disch:=omega)only[go_sem,fp,rows,gd_r];refine hN _ ?_;try clear hN N
   refine AW.ret ?_;simp-dsimp-implicitDefEqProofs (disch:=omega)only[go_sem];exact bt (tf_f (fun h=>by have:=h.2.1;omega)).symm
  try simp only[cn]at h2
  refine AW.skip ?_;simp only[thn,blk];refine hN1 _ ?_;try clear hN1 N1
  refine AW.sr envOk (fun N hN=>?_);simp-dsimp-implicitDefEqProofs (disch:=omega)only[go_sem,fp,rows,gd_r];refine AC.pure (.of (impl_wordCode_ok g rs ⟨h1.1,by omega⟩ hr)) ?_;try simp-dsimp-implicitDefEqProofs (disch:=omega)only[go_sem,fp,rows,gd_r]
  refine hN _ ?_;try clear hN N
  refine AW.ret ?_;simp-dsimp-implicitDefEqProofs (disch:=omega)only[go_sem];refine bt ?_
  unfold codeW
  by_cases hc:∀k,k<rs.length→wordP g (rs.getD k [])
  ·rw[tf_t hc,tf_t ⟨h1,by omega,hc⟩];rfl
  rw[tf_f hc,tf_f (fun h=>hc h.2.2)];rfl
 try simp only[cn]at h1
 try simp-dsimp-implicitDefEqProofs (disch:=omega)only[go_sem,fp,rows,gd_r]
 refine hN _ ?_;try clear hN N
 refine AW.condT rfl ?_;refine AW.sr envOk (fun N hN=>?_);simp-dsimp-implicitDefEqProofs (disch:=omega)only[go_sem,fp,rows,gd_r];refine hN _ ?_;try clear hN N
 refine AW.ret ?_;simp-dsimp-implicitDefEqProofs (disch:=omega)only[go_sem];exact bt (tf_f (fun h=>h1 h.1)).symm
open Nat (reduceAdd reduceSub reduceGT reduceEqDiff reduceMul)
def lab (l:Int):Int:=if 0<l then l else-l
def lid (l:Int):Nat:=(lab l-1).toNat
theorem wordP.get {n:Nat} {w:List Int} (h:wordP n w) {k:Nat} (hk:k<w.length):lid (w.getD k 0)<n∧lab (w.getD k 0)-1=lid (w.getD k 0)∧1≤lab (w.getD k 0)∧lab (w.getD k 0)≤n:=by
  have:=h.2 k hk
  unfold lid lab
  split<;>omega
theorem impl_abs_ok (l:Int) (hl: -1000≤l∧l≤1000):ACp Tryz.prog 112 [.i .i64 l] (.i .i64 (lab l)):=by
 refine ACp.intro' envOk Tryz.func112 rfl (by kernel_rfl) Tryz.ntmps112 Tryz.results112 (.i _ _) (fun nx cX=>?_)
 refine AW.sr envOk (fun N hN=>?_);simp-dsimp-implicitDefEqProofs (disch:=omega)only[go_sem];refine hN _ ?_;try clear hN N
 refine AW.sr envOk (fun N hN=>?_);simp-dsimp-implicitDefEqProofs (disch:=omega)only[go_sem];refine hN _ ?_;try clear hN N
 refine AW.ret ?_;simp-dsimp-implicitDefEqProofs (disch:=omega)only[go_sem];refine it ?_
 unfold lab
 split<;>split<;>omega
open Nat (reduceAdd reduceSub reduceGT reduceEqDiff reduceMul)
def resF (m:(Int×List (List Int))×Int):AV:= .t [fp m.1.1 m.1.2,.i .i64 m.2]
theorem Own.fp {a b:Nat} {H:HP} {r:AV} {ids:List Nat} {g:Int} {rs:List (List Int)} (h:Own a b H r (rows rs) ids):∃ids,Own a b H (.g [.i .i64 g,r]) (Go.Proofs.YtghmeeifjeafmaaGreat.fp g rs) ids:=by
  obtain⟨h1,h2,h3⟩:=h
  exact⟨[]++(ids++[]),.g _ _ _ (.cons _ _ _ _ [] _ (.leaf _ (.i _ _) (.i _ _)) (.cons _ _ _ _ _ _ h1 .nil)),by simpa using h2,fun i hi=>h3 i (by simpa using hi)⟩
theorem OutB.push2 {a m m0 m1 m2 id2:Nat} {o:Option Nat} {rs:List AV} {H H1 H2:HP} {W:List (List Int)} {r1:AV} {X:List Int} {ids1:List Nat} (h:OutB a m o rs H W) (ho:Own m0 m1 H1 r1 (ints X) ids1)
    (hk:∀i,a≤i→i<m→o≠some i→H2 i=H i) (hk1:∀i,m0≤i→i<m1→H2 i=H1 i) (hd:∀i,m2≤i→H2 i=none) (h0:m≤m0) (h1:m1≤id2) (h2:id2<m2) (h01:m0≤m1) (ha:a≤m):
    OutB a m2 (some id2) (rs++[r1]) H2 (W++[X]):=by
  obtain⟨⟨ids,g1,g2,g3,g4⟩,g5,_⟩:=h
  obtain⟨o1,o2,o3⟩:=ho
  refine⟨⟨ids++(ids1++[]),?_,?_,?_,?_⟩,(fun e=>by cases e),hd⟩
  · rw[List.map_append]
    exact OwL.append (g1.keep fun i hi=>hk i (g3 i hi).1 (g3 i hi).2 (fun e=>(g4 i e).1 hi)) (.cons _ _ _ _ _ _ (o1.keep fun i hi=>hk1 i (o3 i hi).1 (o3 i hi).2) .nil)
  · rw[List.append_nil,List.nodup_append]
    exact⟨g2,o2,fun x hx y hy e=>by have:=g3 x hx;have:=o3 y hy;omega⟩
  · intro i hi
    rw[List.append_nil]at hi
    rcases List.mem_append.1 hi with hi|hi
    · have:=g3 i hi;omega
    have:=o3 i hi;omega
  rintro id e
  cases e
  refine⟨fun hi=>?_,by omega,h2⟩
  rw[List.append_nil]at hi
  rcases List.mem_append.1 hi with hi|hi
  · have:=g3 _ hi;omega
  have:=o3 _ hi;omega
theorem Own.nilF {a b:Nat} {H:HP} {e:Int}:∃ids,Own a b H (.t [.g [.i .i64 0,.nl],.i .i64 e]) (resF ((0,[]),e)) ids:=by
  obtain⟨ids,h⟩:=Own.fp (a:=a) (b:=b) (H:=H) (g:=0) (rs:=[]) (ids:=[]) (r:= .nl) ⟨.nl,by simp,by simp⟩
  exact h.pair
end Go.Proofs.YtghmeeifjeafmaaGreat
