import Derived.Test.YtlcddiojeghfgaaDoorZ22
set_option linter.unusedVariables false
set_option linter.unusedSimpArgs false
namespace Go.Proofs.YtlcddiojeghfgaaDoor
open Nat (reduceAdd reduceSub reduceGT reduceEqDiff reduceMul)
def Hold (H:HP) (lo hi:Nat) (r X:AV):Prop:=∃ids,Own lo hi H r X ids
theorem Hold.keep {H H':HP} {lo hi:Nat} {r X:AV} (h:Hold H lo hi r X) (hk:∀i,lo≤i→i<hi→H' i=H i):Hold H' lo hi r X:=by
  obtain⟨ids,h⟩:=h
  exact⟨ids,h.keep hk (Nat.le_refl _) (Nat.le_refl _)⟩
theorem Hold.vw {H:HP} {lo hi:Nat} {r X:AV} (h:Hold H lo hi r X):Vw H r X:=by obtain⟨ids,h⟩:=h;exact h.1.vw
theorem AC.hold {P:Program} {f:FuncId} {nx:Nat} {H:HP} {xs ts:List AV} {X:AV} {K:Nat→HP→AV→Prop} (h:ACo P f ts X) (hv:Vws H xs ts)
    (hk:∀nx' H' r,nx≤nx'→(∀i,i<nx→H' i=H i)→Hold H' nx nx' r X→K nx' H' r):AC P f nx H xs K:=
  AC.own h hv (fun nx' H' r ids h1 h2 h3=>hk nx' H' r h1 h2 ⟨ids,h3⟩)
theorem Hold.pair {H:HP} {lo hi:Nat} {r X:AV} {k:IntKind} {e:Int} (h:Hold H lo hi r (.t [X,.i k e])):∃r1,r= .t [r1,.i k e]∧Hold H lo hi r1 X:=by
  obtain⟨ids,h1,h2,h3⟩:=h
  obtain⟨r1,h4,h5⟩:=h1.pair_inv
  exact⟨r1,h4,ids,h5,h2,h3⟩
def MarkH {α:Type} (f:FuncId) (enc:α→AV) (ok:α→Prop) (B C:Int):Prop:=
  ∀ (nx:Nat) (H:HP) (r:AV) (X:α) (lo hi:Nat) (k:Int),Hold H lo hi r (enc X)→hi≤nx→ok X→0≤k→k≤C→
    AC Tryd.prog f nx H [r,.i .i64 k] (fun _ H' res=>∃k':Int,res= .i .i64 k'∧k≤k'∧k'≤k+B∧∀i,(i<lo∨hi≤i)→H' i=H i)
theorem MarkC.h {α:Type} {f:FuncId} {enc:α→AV} {ok:α→Prop} {B C:Int} (h:MarkC f enc ok B C):MarkH f enc ok B C:=by
  intro nx H r X lo hi k ⟨ids,h1,h2,h3⟩ _ hok h0 h5
  refine(h nx H r X ids k h1 h2 hok h0 h5).mono ?_
  rintro _ H' res ⟨k',g1,g2,g3,g4⟩
  exact⟨k',g1,g2,g3,fun i hi=>g4 i (fun hm=>by have:=h3 i hm;omega)⟩
def mks (k:Int) (n:Nat):List Int:=vec n (fun j=>k+j)
theorem mks_len {k:Int} {n:Nat}:(mks k n).length=n:=vec_len
theorem held_g {k:Int} {n:Nat} (hn:n≤1048576) (h0:0≤k) (h1:k≤1000000000000000000):ACp Tryd.prog 33 [ints (mks k n),.i .i64 k] (.i .i64 (k+n)):=by
  have:=laws_heldInt64S_ok (mks k n) k (by rw[mks_len];exact hn) h0 h1 (fun j hj=>by rw[mks_len]at hj;rw[mks,vec_get hj])
  rwa [mks_len]at this
def mks2:Int→List (List Int)→List (List Int)
  |_,[]=>[]
  |k,x::xs=>mks k x.length::mks2 (k+x.length) xs
def tot:List (List Int)→Nat
  |[]=>0
  |x::xs=>x.length+tot xs
theorem mks2_len:∀(xs:List (List Int)) (k:Int),(mks2 k xs).length=xs.length:=by
  intro xs
  induction xs with
  |nil=>intro k;rfl
  |cons x xs ih=>intro k;simp[mks2,ih]
theorem mks2_get:∀(xs:List (List Int)) (k:Int) (i:Nat),i<xs.length→(mks2 k xs).getD i []=mks (k+tot (xs.take i)) (xs.getD i []).length:=by
  intro xs
  induction xs with
  |nil=>intro k i h;simp at h
  | cons x xs ih=>
    intro k i h
    cases i with
    |zero=>simp[mks2,tot]
    | succ i=>
      have:=ih (k+x.length) i (by simpa using h)
      simp only[mks2,List.getD_cons_succ,List.take_succ_cons,tot]
      rw[this];congr 1;omega
theorem tot_take {xs:List (List Int)} {i:Nat} (h:i<xs.length):tot (xs.take (i+1))=tot (xs.take i)+(xs.getD i []).length:=by
  induction xs generalizing i with
  |nil=>simp at h
  | cons x xs ih=>
    cases i with
    |zero=>simp[tot]
    | succ i=>
      simp only[List.take_succ_cons,tot,List.getD_cons_succ]
      rw[ih (by simpa using h)];omega
theorem tot_le {xs:List (List Int)} (h:∀x∈xs,x.length≤1048576):tot xs≤1048576*xs.length:=by
  induction xs with
  |nil=>simp[tot]
  | cons x xs ih=>
    have h1:=h x (by simp)
    have h2:=ih (fun y hy=>h y (by simp[hy]))
    simp only[tot,List.length_cons];omega
theorem rowslen.tot {xs:List (List Int)} (h:rowslen xs) (i:Nat):Go.Proofs.YtlcddiojeghfgaaDoor.tot (xs.take i)≤1099511627776:=by
  have h1:=tot_le (xs:=xs.take i) (fun x hx=>h.v x (List.mem_of_mem_take hx))
  have h2:=h.n
  have h3:(xs.take i).length≤xs.length:=by rw[List.length_take];omega
  omega
theorem markS_o {a:List Int} (hok:a.length≤1048576) {nx:Nat} {H:HP} {r:AV} {ids:List Nat} {k:Int} (h:Ow H r (ints a) ids) (h0:0≤k) (h1:k≤1000000000000000000):
    AC Tryd.prog 32 nx H [r,.i .i64 k] (fun _ H' res=>res= .i .i64 (k+a.length)∧(∃is,Ow H' r (ints (mks k a.length)) is∧is.Nodup∧∀i∈is,i∈ids)∧∀i,i∉ids→H' i=H i):=by
  rcases h.ints_inv with ⟨rfl,rfl|rfl⟩|⟨id,rfl,hid,hH⟩
  · exact(laws_markInt64S_nl k nx H).mono (fun _ _ _ ⟨h1,h2⟩=>by subst h1;subst h2;exact⟨by simp,⟨[],.nl,by simp,by simp⟩,fun _ _=>rfl⟩)
  · exact(laws_markInt64S_v0 k nx H).mono (fun _ _ _ ⟨h1,h2⟩=>by subst h1;subst h2;exact⟨by simp,⟨[],.leaf _ .v0 (.v _ _ (by simp)),by simp,by simp⟩,fun _ _=>rfl⟩)
  · refine(laws_markInt64S_h id a.length _ k nx H hH hok h0 (by omega)).mono (fun _ _ _ ⟨h1,h2⟩=> ?_)
    subst h1;subst h2
    exact⟨rfl,⟨[id],Ow.ints (by rw[upd_same,mks,vec_map]) mks_len.symm,by simp,by simp[hid]⟩,fun i hi=>upd_ne _ _ (fun e=>hi (by rw[e];exact hid))⟩
theorem drop_cons_getD {α:Type} {xs:List α} {d:α} {i:Nat} (h:i<xs.length):xs.drop i=xs.getD i d::xs.drop (i+1):=by
  rw[List.drop_eq_getElem_cons h];simp[h]
theorem take_snoc_getD {α:Type} {xs:List α} {d:α} {i:Nat} (h:i<xs.length):xs.take (i+1)=xs.take i++[xs.getD i d]:=by
  rw[List.take_add_one];simp[h]
theorem laws_markInt64SS_x (id:Nat) (rs:List AV) (xs:List (List Int)) (js:List Nat) (k:Int) (nx:Nat) (H:HP) (hH:H id=some rs) (hrs:rs.length=xs.length) (ho:OwL H rs (xs.map Go.Proofs.YtlcddiojeghfgaaDoor.ints) js) (hnd:(id::js).Nodup) (hok:rowslen xs) (hk0:0≤k) (hk1:k≤100000000000000000):
 AC Tryd.prog 20 nx H [.h id 0 xs.length,.i .i64 k] (fun _ H' res=>res= .i .i64 (k+tot xs)∧H' id=some rs∧(∃is,OwL H' rs ((mks2 k xs).map Go.Proofs.YtlcddiojeghfgaaDoor.ints) is∧is.Nodup∧∀i∈is,i∈js)∧∀i,i∉id::js→H' i=H i):=by
 have hxn:=hok.n
 have hml:=mks2_len xs k
 refine AC.introx envOk Tryd.func20 rfl (by kernel_rfl) Tryd.ntmps20 Tryd.results20 (fun hfr cX=> ?_)
 refine AW.sr envOk (fun N hN=> ?_)
 simp-dsimp-implicitDefEqProofs (disch:=omega) only[go_sem,undef,w64]
 refine hN _ ?_
 try clear hN N
 refine AW.seq (fun N1 hN1=> ?_)
 refine AW.sr envOk (fun N hN=> ?_)
 simp-dsimp-implicitDefEqProofs (disch:=omega) only[go_sem,undef,w64]
 refine hN _ ?_
 try clear hN N
 refine AW.block ?_
 refine AW.loopN (α:=Nat×HP×List Nat×List Nat) (fun x=>sl 19 [(0,.h id 0 xs.length),(1,.i .i64 (k+tot (xs.take x.1))),(5,.i .i64 x.1)]) (fun x=>x.2.1) (fun x m=>x.1≤xs.length∧(∀j,j∉id::js→x.2.1 j=H j)∧x.2.1 id=some rs∧OwL x.2.1 (rs.take x.1) (((mks2 k xs).take x.1).map Go.Proofs.YtlcddiojeghfgaaDoor.ints) x.2.2.1∧OwL x.2.1 (rs.drop x.1) ((xs.drop x.1).map Go.Proofs.YtlcddiojeghfgaaDoor.ints) x.2.2.2∧(x.2.2.1++x.2.2.2).Nodup∧(∀j∈x.2.2.1++x.2.2.2,j∈js)) (fun x=>xs.length-x.1) ((0,H,[],js)) ?_ ?_ (fun _ _ h=>h) ?_
 ·exact⟨by simp,fun _ _=>rfl,hH,.nil,by simpa using ho,by simpa using(List.nodup_cons.1 hnd).2,by simp⟩
 ·simp(disch:=omega) [wks,wkA,sl,tot]
 ·skip
  rintro⟨i,G,ps,qs⟩ m ⟨hi,hG,hGid,hGp,hGo,hqn,hqs⟩
  simp only at hi hG hGid hGp hGo hqn hqs
  simp-dsimp-implicitDefEqProofs (disch:=omega) only[go_sem,undef]
  have htt:=hok.tot i
  refine AW.seq (fun N2 hN2=> ?_)
  refine AW.sr envOk (fun N hN=> ?_)
  simp-dsimp-implicitDefEqProofs (disch:=omega) only[go_sem,undef,w64]
  refine hN _ ?_
  try clear hN N
  refine AW.cond rfl (fun h1=> ?_) (fun h1=> ?_)
  ·try simp only[cn]at h1
   have hir:i<rs.length:=by omega
   have hix:i<xs.length:=by omega
   rw[drop_cons_getD (d:= .j) hir,drop_cons_getD (d:=[]) hix,List.map_cons]at hGo
   obtain⟨is,qs',rfl,hx1,hx2⟩:∃is qs',qs=is++qs'∧Ow G (rs.getD i .j) (ints (xs.getD i [])) is∧OwL G (rs.drop (i+1)) ((xs.drop (i+1)).map Go.Proofs.YtlcddiojeghfgaaDoor.ints) qs':=by
    cases hGo with|cons _ _ _ _ is js' g1 g2=>exact⟨is,js',rfl,g1,g2⟩
   have hidj:=(List.nodup_cons.1 hnd).1
   have htk:=tot_take hix
   have hxl:=hok.getD i
   obtain⟨n1,n2,n3⟩:=List.nodup_append.1 hqn
   obtain⟨n4,n5,n6⟩:=List.nodup_append.1 n2
   refine AW.skip ?_
   simp only[thn,blk]
   refine hN2 _ ?_
   try clear hN2 N2
   refine AW.seq (fun N3 hN3=> ?_)
   refine AW.block ?_
   refine AW.regionL envOk ?_
   simp-dsimp-implicitDefEqProofs (disch:=omega) only[go_sem,undef,w64]
   try simp-dsimp-implicitDefEqProofs (disch:=omega) only[go_sem,undef,hGid]
   refine(markS_o (hok.getD i) hx1 (by omega) (by omega)).mono ?_
   rintro _ G2 res ⟨rfl,⟨is2,w1,w2,w3⟩,hG2⟩
   have hmi:mks (k+tot (xs.take i)) (xs.getD i []).length=(mks2 k xs).getD i []:=(mks2_get xs k i hix).symm
   rw[hmi]at w1
   try simp-dsimp-implicitDefEqProofs (disch:=omega) only[go_sem,undef,w64]
   refine hN3 _ ?_
   try clear hN3 N3
   refine AW.regionL envOk ?_
   simp-dsimp-implicitDefEqProofs (disch:=omega) only[go_sem,undef,w64]
   refine⟨(i+1,G2,ps++is2,qs'),?_,fun _ _ h=>h,?_,?_⟩
   ·simp(disch:=omega) [wks,wkA,sl,w64,htk]<;>omega
   ·refine⟨by omega,fun j hj=> ?_,?_,?_,hx2.keep (fun j hj=>hG2 j (fun h=>n6 j h j hj rfl)),?_,fun j hj=> ?_⟩
    ·show G2 j=H j
     rw[hG2 j (fun h=>hj (by simp[hqs j (by simp[h])]))]
     exact hG j hj
    ·show G2 id=some rs
     rw[hG2 id (fun h=>hidj (hqs id (by simp[h])))]
     exact hGid
    ·show OwL G2 (rs.take (i+1)) (((mks2 k xs).take (i+1)).map Go.Proofs.YtlcddiojeghfgaaDoor.ints) (ps++is2)
     rw[take_snoc_getD (d:= .j) hir,take_snoc_getD (d:=[]) (by omega),List.map_append]
     refine OwL.append (hGp.keep fun j hj=>hG2 j (fun h=>n3 j hj j (by simp[h]) rfl)) ?_
     have:=OwL.cons _ _ [] [] is2 [] w1 .nil
     simpa using this
    ·show(ps++is2++qs').Nodup
     rw[List.append_assoc,List.nodup_append,List.nodup_append]
     exact⟨n1,⟨w2,n5,fun a ha b hb e=>n6 a (w3 a ha) b hb e⟩,fun a ha b hb e=>by
      rcases List.mem_append.1 hb with hb|hb
      ·exact n3 a ha b (by simp[w3 b hb]) e
      ·exact n3 a ha b (by simp[hb]) e⟩
    ·have hj':j∈ps++is2++qs':=hj
     rw[List.append_assoc]at hj'
     rcases List.mem_append.1 hj' with hj'|hj'
     ·exact hqs j (by simp[hj'])
     ·rcases List.mem_append.1 hj' with hj'|hj'
      ·exact hqs j (by simp[w3 j hj'])
      ·exact hqs j (by simp[hj'])
   ·first|omega|(simp only;omega)
  ·try simp only[cn]at h1
   refine AW.exit ?_
   simp only[thn,blk,if_true]
   refine hN1 _ ?_
   try clear hN1 N1
   refine AW.sr envOk (fun N hN=> ?_)
   simp-dsimp-implicitDefEqProofs (disch:=omega) only[go_sem,undef,w64]
   refine hN _ ?_
   try clear hN N
   refine AW.ret ?_
   simp-dsimp-implicitDefEqProofs (disch:=omega) only[go_sem,undef]
   have hie:i=xs.length:=by omega
   subst hie
   rw[List.take_of_length_le (by omega),List.take_of_length_le (by omega)]at hGp
   rw[List.take_length]
   exact⟨_,Le.refl _,rfl,hGid,⟨ps,hGp,(List.nodup_append.1 hqn).1,fun j hj=>hqs j (by simp[hj])⟩,hG⟩
theorem heldRR_g {a:List (List Int)} (hok:rowslen a) {k:Int} (hk0:0≤k) (hk1:k≤100000000000000000):ACp Tryd.prog 21 [rows (mks2 k a),.i .i64 k] (.i .i64 (k+tot a)):=by
 have hn:=hok.n
 have hml:=mks2_len a k
 refine ACp.intro' envOk Tryd.func21 rfl (by kernel_rfl) Tryd.ntmps21 Tryd.results21 (.i _ _) (fun nx cX=> ?_)
 refine AW.sr envOk (fun N hN=> ?_)
 simp-dsimp-implicitDefEqProofs (disch:=omega) only[go_sem,undef,rows,gd_r,w64]
 refine hN _ ?_
 try clear hN N
 refine AW.seq (fun N1 hN1=> ?_)
 refine AW.sr envOk (fun N hN=> ?_)
 simp-dsimp-implicitDefEqProofs (disch:=omega) only[go_sem,undef,rows,gd_r,w64]
 refine hN _ ?_
 try clear hN N
 refine AW.block ?_
 refine AW.loopN (α:=Nat) (fun x=>sl 21 [(0,rows (mks2 k a)),(1,.i .i64 (k+tot (a.take x))),(5,.i .i64 x)]) (fun _=>noH) (fun x m=>x≤a.length) (fun x=>a.length-x) (0) ?_ ?_ (fun _ _ h=>h) ?_
 ·omega
 ·simp(disch:=omega) [wks,wkA,sl,tot,rows]
 ·skip
  rintro i m hi
  simp-dsimp-implicitDefEqProofs (disch:=omega) only[go_sem,undef]
  have htt:=hok.tot i
  refine AW.seq (fun N2 hN2=> ?_)
  refine AW.sr envOk (fun N hN=> ?_)
  simp-dsimp-implicitDefEqProofs (disch:=omega) only[go_sem,undef,rows,gd_r,w64]
  refine hN _ ?_
  try clear hN N
  refine AW.cond rfl (fun h1=> ?_) (fun h1=> ?_)
  ·try simp only[cn]at h1
   have hia:i<a.length:=by omega
   have hxl:=hok.getD i
   have htk:=tot_take hia
   have hgi:=mks2_get a k i hia
   refine AW.skip ?_
   simp only[thn,blk]
   refine hN2 _ ?_
   try clear hN2 N2
   refine AW.seq (fun N3 hN3=> ?_)
   refine AW.block ?_
   refine AW.sr envOk (fun N hN=> ?_)
   simp-dsimp-implicitDefEqProofs (disch:=omega) only[go_sem,undef,rows,gd_r,w64]
   rw[hgi]
   refine AC.pure (.of (held_g hxl (by omega) (by omega))) ?_
   try simp-dsimp-implicitDefEqProofs (disch:=omega) only[go_sem,undef,rows,gd_r,w64]
   refine hN _ ?_
   try clear hN N
   refine AW.sr envOk (fun N hN=> ?_)
   simp-dsimp-implicitDefEqProofs (disch:=omega) only[go_sem,undef,rows,gd_r,w64]
   refine hN _ ?_
   try clear hN N
   refine AW.cond rfl (fun h2=> ?_) (fun h2=> ?_)
   ·try simp only[cn]at h2
    refine AW.sr envOk (fun N hN=> ?_)
    simp-dsimp-implicitDefEqProofs (disch:=omega) only[go_sem,undef,rows,gd_r,w64]
    refine hN _ ?_
    try clear hN N
    refine AW.ret ?_
    simp-dsimp-implicitDefEqProofs (disch:=omega) only[go_sem,undef]
    exfalso;omega
   ·try simp only[cn]at h2
    refine AW.skip ?_
    simp only[thn,blk]
    refine hN3 _ ?_
    try clear hN3 N3
    refine AW.regionL envOk ?_
    simp-dsimp-implicitDefEqProofs (disch:=omega) only[go_sem,undef,rows,gd_r,w64]
    refine⟨i+1,?_,fun _ _ h=>h,?_,?_⟩
    ·simp(disch:=omega) [wks,wkA,sl,w64,htk,rows]<;>omega
    ·omega
    ·first|omega|(simp only;omega)
  ·try simp only[cn]at h1
   refine AW.exit ?_
   simp only[thn,blk,if_true]
   refine hN1 _ ?_
   try clear hN1 N1
   refine AW.sr envOk (fun N hN=> ?_)
   simp-dsimp-implicitDefEqProofs (disch:=omega) only[go_sem,undef,rows,gd_r,w64]
   refine hN _ ?_
   try clear hN N
   refine AW.ret ?_
   simp-dsimp-implicitDefEqProofs (disch:=omega) only[go_sem,undef]
   rw[show i=a.length by omega,List.take_length]
theorem laws_eqInt64SS_l (a b:List (List Int)) (ha:rowslen a) (hb:rowslen b):ACp Tryd.prog 19 [rows a,rows b] (.b (decide (a=b))):=by
 have han:=ha.n
 have hbn:=hb.n
 refine ACp.intro' envOk Tryd.func19 rfl (by kernel_rfl) Tryd.ntmps19 Tryd.results19 (.b _) (fun nx cX=> ?_)
 refine AW.sr envOk (fun N hN=> ?_)
 simp-dsimp-implicitDefEqProofs (disch:=omega) only[go_sem,undef,rows,gd_r,w64]
 refine hN _ ?_
 try clear hN N
 refine AW.seq (fun N1 hN1=> ?_)
 refine AW.sr envOk (fun N hN=> ?_)
 simp-dsimp-implicitDefEqProofs (disch:=omega) only[go_sem,undef,rows,gd_r,w64]
 refine hN _ ?_
 try clear hN N
 refine AW.cond rfl (fun h1=> ?_) (fun h1=> ?_)
 ·try simp only[cn]at h1
  refine AW.sr envOk (fun N hN=> ?_)
  simp-dsimp-implicitDefEqProofs (disch:=omega) only[go_sem,undef,rows,gd_r,w64]
  refine hN _ ?_
  try clear hN N
  refine AW.ret ?_
  simp-dsimp-implicitDefEqProofs (disch:=omega) only[go_sem,undef]
  exact bt (decide_eq_false (fun h=>h1 (by rw[h]))).symm
 ·try simp only[cn]at h1
  have hl:a.length=b.length:=by omega
  refine AW.skip ?_
  simp only[thn,blk]
  refine hN1 _ ?_
  try clear hN1 N1
  refine AW.seq (fun N2 hN2=> ?_)
  refine AW.sr envOk (fun N hN=> ?_)
  simp-dsimp-implicitDefEqProofs (disch:=omega) only[go_sem,undef,rows,gd_r,w64]
  refine hN _ ?_
  try clear hN N
  refine AW.block ?_
  refine AW.loopN (α:=Nat) (fun x=>sl 27 [(0,rows a),(1,rows b),(5,.i .i64 x)]) (fun _=>noH) (fun x m=>x≤a.length∧a.take x=b.take x) (fun x=>a.length-x) (0) ?_ ?_ (fun _ _ h=>h) ?_
  ·exact⟨by omega,rfl⟩
  ·simp(disch:=omega) [wks,wkA,sl,w64,ints,rows,cubes,rows,gd_r,w64]<;>omega
  ·skip
   rintro k m ⟨hk,hI⟩
   simp-dsimp-implicitDefEqProofs (disch:=omega) only[go_sem,undef]
   refine AW.seq (fun N3 hN3=> ?_)
   refine AW.sr envOk (fun N hN=> ?_)
   simp-dsimp-implicitDefEqProofs (disch:=omega) only[go_sem,undef,rows,gd_r,w64]
   refine hN _ ?_
   try clear hN N
   refine AW.cond rfl (fun h2=> ?_) (fun h2=> ?_)
   ·try simp only[cn]at h2
    have hak:=ha.getD k
    have hbk:=hb.getD k
    refine AW.skip ?_
    simp only[thn,blk]
    refine hN3 _ ?_
    try clear hN3 N3
    refine AW.seq (fun N4 hN4=> ?_)
    refine AW.block ?_
    refine AW.seq (fun N hN=> ?_)
    refine AW.drawL envOk (by kernel_rfl) 10 (by kernel_rfl) ?_
    simp-dsimp-implicitDefEqProofs (disch:=omega) only[hr_nil,hr_one,hr_if,List.take_succ_cons,List.take_zero,List.drop_succ_cons,List.drop_zero,List.take_nil,List.drop_nil,go_sem,undef,rows,gd_r,w64]
    refine⟨_,.of (laws_eqInt64S_ok (a.getD k []) (b.getD k []) (by omega) (by omega)),?_⟩
    try simp-dsimp-implicitDefEqProofs (disch:=omega) only[go_sem,undef,rows,gd_r,w64]
    refine hN _ ?_
    try clear hN N
    refine AW.cond rfl (fun h3=> ?_) (fun h3=> ?_)
    ·try simp only[cn]at h3
     refine AW.sr envOk (fun N hN=> ?_)
     simp-dsimp-implicitDefEqProofs (disch:=omega) only[go_sem,undef,rows,gd_r,w64]
     refine hN _ ?_
     try clear hN N
     refine AW.ret ?_
     simp-dsimp-implicitDefEqProofs (disch:=omega) only[go_sem,undef]
     exact bt (decide_eq_false (fun h=>h3 (by rw[h]))).symm
    ·try simp only[cn]at h3
     refine AW.skip ?_
     simp only[thn,blk]
     refine hN4 _ ?_
     try clear hN4 N4
     refine AW.regionL envOk ?_
     simp-dsimp-implicitDefEqProofs (disch:=omega) only[go_sem,undef,rows,gd_r,w64]
     refine⟨k+1,?_,fun _ _ h=>h,?_,?_⟩
     ·simp(disch:=omega) [wks,wkA,sl,w64,ints,rows,cubes,rows,gd_r,w64]<;>omega
     ·exact⟨by omega,take_ext [] hl (by omega) hI h3⟩
     ·first|omega|(simp only;omega)
   ·try simp only[cn]at h2
    refine AW.exit ?_
    simp only[thn,blk,if_true]
    refine hN2 _ ?_
    try clear hN2 N2
    refine AW.sr envOk (fun N hN=> ?_)
    simp-dsimp-implicitDefEqProofs (disch:=omega) only[go_sem,undef,rows,gd_r,w64]
    refine hN _ ?_
    try clear hN N
    refine AW.ret ?_
    simp-dsimp-implicitDefEqProofs (disch:=omega) only[go_sem,undef]
    have hk':k=a.length:=by omega
    subst hk'
    rw[List.take_length,hl,List.take_length]at hI
    exact bt (decide_eq_true hI).symm
end Go.Proofs.YtlcddiojeghfgaaDoor
