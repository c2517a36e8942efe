import Derived.Test.YthncdadmkppclaaGreatDoorZ18
set_option linter.unusedVariables false
set_option linter.unusedSimpArgs false
namespace Go.Proofs.YthncdadmkppclaaGreatDoor
open Nat (reduceAdd reduceSub reduceGT reduceEqDiff reduceMul)
theorem mem_ixI {α:Type} {u:List α} {d x:α} (h:x∈u):∃k,k<u.length∧u.getD k d=x:=by
  obtain⟨k,h1,h2⟩:=List.mem_iff_getElem.1 h
  exact⟨k,h1,by simp[h1,h2]⟩
structure cubesml (a:List (List (List Int))):Prop where
  n:a.length≤1000
  v:∀x∈a,x.length≤1000∧∀y∈x,y.length≤1000
theorem cubesml.nil:cubesml []:=⟨by simp,by simp⟩
theorem cubesml.row {a:List (List (List Int))} (h:cubesml a) (i:Nat):rowslen (a.getD i [])∧tot (a.getD i [])≤1000000:=by
  have hg:(a.getD i []).length≤1000∧∀y∈a.getD i [],y.length≤1000:=getD_mem (P:=fun x:List (List Int)=>x.length≤1000∧∀y∈x,y.length≤1000) h.v (by simp) i
  refine⟨⟨by omega,fun x hx=>by have:=hg.2 x hx;omega⟩,?_⟩
  have go:∀xs:List (List Int),(∀y∈xs,y.length≤1000)→tot xs≤1000*xs.length:=by
    intro xs
    induction xs with
    |nil=>intro _;simp[tot]
    | cons x xs ih=>
      intro h
      have h1:=h x (by simp)
      have h2:=ih (fun y hy=>h y (by simp[hy]))
      simp only[tot,List.length_cons];omega
  have:=go _ hg.2
  omega
theorem cubesml.len {a:List (List (List Int))} (h:cubesml a):cubeslen a:=⟨by have:=h.n;omega,fun x hx=>by
  obtain⟨k,hk,rfl⟩:=mem_ixI (d:=[]) hx
  exact(h.row k).1⟩
def mks3:Int→List (List (List Int))→List (List (List Int))
  |_,[]=>[]
  |k,x::xs=>mks2 k x::mks3 (k+tot x) xs
def tot3:List (List (List Int))→Nat
  |[]=>0
  |x::xs=>tot x+tot3 xs
theorem mks3_len:∀(xs:List (List (List Int))) (k:Int),(mks3 k xs).length=xs.length:=by
  intro xs
  induction xs with
  |nil=>intro k;rfl
  |cons x xs ih=>intro k;simp[mks3,ih]
theorem mks3_get:∀(xs:List (List (List Int))) (k:Int) (i:Nat),i<xs.length→(mks3 k xs).getD i []=mks2 (k+tot3 (xs.take i)) (xs.getD i []):=by
  intro xs
  induction xs with
  |nil=>intro k i h;simp at h
  | cons x xs ih=>
    intro k i h
    cases i with
    |zero=>simp[mks3,tot3]
    | succ i=>
      have:=ih (k+tot x) i (by simpa using h)
      simp only[mks3,List.getD_cons_succ,List.take_succ_cons,tot3]
      rw[this];congr 1;omega
theorem tot3_take {xs:List (List (List Int))} {i:Nat} (h:i<xs.length):tot3 (xs.take (i+1))=tot3 (xs.take i)+tot (xs.getD i []):=by
  induction xs generalizing i with
  |nil=>simp at h
  | cons x xs ih=>
    cases i with
    |zero=>simp[tot3]
    | succ i=>
      simp only[List.take_succ_cons,tot3,List.getD_cons_succ]
      rw[ih (by simpa using h)];omega
theorem cubesml.tot {a:List (List (List Int))} (h:cubesml a):∀i,i≤a.length→tot3 (a.take i)≤1000000*i:=by
  intro i
  induction i with
  |zero=>intro _;simp[tot3]
  | succ i ih=>
    intro hi
    have h1:=ih (by omega)
    have h2:=(h.row i).2
    rw[tot3_take (by omega)];omega
theorem cubesml.totl {a:List (List (List Int))} (h:cubesml a) (i:Nat):tot3 (a.take i)≤1000000000:=by
  have hn:=h.n
  rcases Nat.lt_or_ge a.length i with hi|hi
  · have:=h.tot a.length (Nat.le_refl _)
    rw[List.take_of_length_le (by omega)]
    rw[List.take_length]at this;omega
  · have:=h.tot i hi;omega
theorem laws_markInt64SSS_x (id:Nat) (rs:List AV) (xs:List (List (List Int))) (js:List Nat) (k:Int) (nx:Nat) (H:HP) (hH:H id=some rs) (hrs:rs.length=xs.length) (ho:OwL H rs (xs.map rows) js) (hnd:(id::js).Nodup) (hok:cubesml xs) (hk0:0≤k) (hk1:k≤10000000000000000):
 AC Tryz.prog 21 nx H [.h id 0 xs.length,.i .i64 k] (fun _ H' res=>res= .i .i64 (k+tot3 xs)∧H' id=some rs∧(∃is,OwL H' rs ((mks3 k xs).map rows) is∧is.Nodup∧∀i∈is,i∈js)∧∀i,i∉id::js→H' i=H i):=by
 have hxn:=hok.n
 have hml:=mks3_len xs k
 refine AC.introx envOk Tryz.func21 rfl (by kernel_rfl) Tryz.ntmps21 Tryz.results21 (fun hfr cX=> ?_)
 refine AW.sr envOk (fun N hN=> ?_)
 simp-dsimp-implicitDefEqProofs (disch:=omega) only[go_sem,undef,w64]
 refine hN _ ?_
 try clear hN N
 refine AW.seq (fun N1 hN1=> ?_)
 refine AW.sr envOk (fun N hN=> ?_)
 simp-dsimp-implicitDefEqProofs (disch:=omega) only[go_sem,undef,w64]
 refine hN _ ?_
 try clear hN N
 refine AW.block ?_
 refine AW.loopN (α:=Nat×HP×List Nat×List Nat) (fun x=>sl 19 [(0,.h id 0 xs.length),(1,.i .i64 (k+tot3 (xs.take x.1))),(5,.i .i64 x.1)]) (fun x=>x.2.1) (fun x m=>x.1≤xs.length∧(∀j,j∉id::js→x.2.1 j=H j)∧x.2.1 id=some rs∧OwL x.2.1 (rs.take x.1) (((mks3 k xs).take x.1).map rows) x.2.2.1∧OwL x.2.1 (rs.drop x.1) ((xs.drop x.1).map rows) x.2.2.2∧(x.2.2.1++x.2.2.2).Nodup∧(∀j∈x.2.2.1++x.2.2.2,j∈js)) (fun x=>xs.length-x.1) ((0,H,[],js)) ?_ ?_ (fun _ _ h=>h) ?_
 ·exact⟨by simp,fun _ _=>rfl,hH,.nil,by simpa using ho,by simpa using(List.nodup_cons.1 hnd).2,by simp⟩
 ·simp(disch:=omega) [wks,wkA,sl,tot3]
 ·skip
  rintro⟨i,G,ps,qs⟩ m ⟨hi,hG,hGid,hGp,hGo,hqn,hqs⟩
  simp only at hi hG hGid hGp hGo hqn hqs
  simp-dsimp-implicitDefEqProofs (disch:=omega) only[go_sem,undef]
  have htt:=hok.totl i
  refine AW.seq (fun N2 hN2=> ?_)
  refine AW.sr envOk (fun N hN=> ?_)
  simp-dsimp-implicitDefEqProofs (disch:=omega) only[go_sem,undef,w64]
  refine hN _ ?_
  try clear hN N
  refine AW.cond rfl (fun h1=> ?_) (fun h1=> ?_)
  ·try simp only[cn]at h1
   have hir:i<rs.length:=by omega
   have hix:i<xs.length:=by omega
   rw[drop_cons_getD (d:= .j) hir,drop_cons_getD (d:=[]) hix,List.map_cons]at hGo
   obtain⟨is,qs',rfl,hx1,hx2⟩:∃is qs',qs=is++qs'∧Ow G (rs.getD i .j) (rows (xs.getD i [])) is∧OwL G (rs.drop (i+1)) ((xs.drop (i+1)).map rows) qs':=by
    cases hGo with|cons _ _ _ _ is js' g1 g2=>exact⟨is,js',rfl,g1,g2⟩
   have hidj:=(List.nodup_cons.1 hnd).1
   have htk:=tot3_take hix
   obtain⟨hxl,hxt⟩:=hok.row i
   obtain⟨n1,n2,n3⟩:=List.nodup_append.1 hqn
   obtain⟨n4,n5,n6⟩:=List.nodup_append.1 n2
   refine AW.skip ?_
   simp only[thn,blk]
   refine hN2 _ ?_
   try clear hN2 N2
   refine AW.seq (fun N3 hN3=> ?_)
   refine AW.block ?_
   refine AW.regionL envOk ?_
   simp-dsimp-implicitDefEqProofs (disch:=omega) only[go_sem,undef,w64]
   try simp-dsimp-implicitDefEqProofs (disch:=omega) only[go_sem,undef,hGid]
   refine(markRR_o hxl hx1 n4 (by omega) (by omega)).mono ?_
   rintro _ G2 res ⟨rfl,⟨is2,w1,w2,w3⟩,hG2⟩
   have hmi:mks2 (k+tot3 (xs.take i)) (xs.getD i [])=(mks3 k xs).getD i []:=(mks3_get xs k i hix).symm
   rw[hmi]at w1
   try simp-dsimp-implicitDefEqProofs (disch:=omega) only[go_sem,undef,w64]
   refine hN3 _ ?_
   try clear hN3 N3
   refine AW.regionL envOk ?_
   simp-dsimp-implicitDefEqProofs (disch:=omega) only[go_sem,undef,w64]
   refine⟨(i+1,G2,ps++is2,qs'),?_,fun _ _ h=>h,?_,?_⟩
   ·simp(disch:=omega) [wks,wkA,sl,w64,htk]<;>omega
   ·refine⟨by omega,fun j hj=> ?_,?_,?_,hx2.keep (fun j hj=>hG2 j (fun h=>n6 j h j hj rfl)),?_,fun j hj=> ?_⟩
    ·show G2 j=H j
     rw[hG2 j (fun h=>hj (by simp[hqs j (by simp[h])]))]
     exact hG j hj
    ·show G2 id=some rs
     rw[hG2 id (fun h=>hidj (hqs id (by simp[h])))]
     exact hGid
    ·show OwL G2 (rs.take (i+1)) (((mks3 k xs).take (i+1)).map rows) (ps++is2)
     rw[take_snoc_getD (d:= .j) hir,take_snoc_getD (d:=[]) (by omega),List.map_append]
     refine OwL.append (hGp.keep fun j hj=>hG2 j (fun h=>n3 j hj j (by simp[h]) rfl)) ?_
     have:=OwL.cons _ _ [] [] is2 [] w1 .nil
     simpa using this
    ·show(ps++is2++qs').Nodup
     rw[List.append_assoc,List.nodup_append,List.nodup_append]
     exact⟨n1,⟨w2,n5,fun a ha b hb e=>n6 a (w3 a ha) b hb e⟩,fun a ha b hb e=>by
      rcases List.mem_append.1 hb with hb|hb
      ·exact n3 a ha b (by simp[w3 b hb]) e
      ·exact n3 a ha b (by simp[hb]) e⟩
    ·have hj':j∈ps++is2++qs':=hj
     rw[List.append_assoc]at hj'
     rcases List.mem_append.1 hj' with hj'|hj'
     ·exact hqs j (by simp[hj'])
     ·rcases List.mem_append.1 hj' with hj'|hj'
      ·exact hqs j (by simp[w3 j hj'])
      ·exact hqs j (by simp[hj'])
   ·first|omega|(simp only;omega)
  ·try simp only[cn]at h1
   refine AW.exit ?_
   simp only[thn,blk,if_true]
   refine hN1 _ ?_
   try clear hN1 N1
   refine AW.sr envOk (fun N hN=> ?_)
   simp-dsimp-implicitDefEqProofs (disch:=omega) only[go_sem,undef,w64]
   refine hN _ ?_
   try clear hN N
   refine AW.ret ?_
   simp-dsimp-implicitDefEqProofs (disch:=omega) only[go_sem,undef]
   have hie:i=xs.length:=by omega
   subst hie
   rw[List.take_of_length_le (by omega),List.take_of_length_le (by omega)]at hGp
   rw[List.take_length]
   exact⟨_,Le.refl _,rfl,hGid,⟨ps,hGp,(List.nodup_append.1 hqn).1,fun j hj=>hqs j (by simp[hj])⟩,hG⟩
theorem markCC_o {a:List (List (List Int))} (hok:cubesml a) {nx:Nat} {H:HP} {r:AV} {ids:List Nat} {k:Int} (h:Ow H r (cubes a) ids) (hnd:ids.Nodup) (h0:0≤k) (h1:k≤10000000000000000):
    AC Tryz.prog 21 nx H [r,.i .i64 k] (fun _ H' res=>res= .i .i64 (k+tot3 a)∧(∃is,Ow H' r (cubes (mks3 k a)) is∧is.Nodup∧∀i∈is,i∈ids)∧∀i,i∉ids→H' i=H i):=by
  rcases h.cubes_inv with ⟨rfl,rfl|rfl⟩|⟨id,rs,js,rfl,rfl,hrs,hH,hL⟩
  · exact(laws_markInt64SSS_nl k nx H).mono (fun _ _ _ ⟨h1,h2⟩=>by subst h1;subst h2;exact⟨by simp[tot3],⟨[],.nl,by simp,by simp⟩,fun _ _=>rfl⟩)
  · exact(laws_markInt64SSS_v0 k nx H).mono (fun _ _ _ ⟨h1,h2⟩=>by subst h1;subst h2;exact⟨by simp[tot3],⟨[],.leaf _ .v0 (.v _ _ (by simp)),by simp,by simp⟩,fun _ _=>rfl⟩)
  · refine(laws_markInt64SSS_x id rs a js k nx H hH hrs hL hnd hok h0 h1).mono ?_
    rintro _ H' res ⟨rfl,q1,⟨is,q2,q3,q4⟩,q5⟩
    refine⟨rfl,⟨id::is,?_,List.nodup_cons.2 ⟨fun hm=>(List.nodup_cons.1 hnd).1 (q4 id hm),q3⟩,fun i hi=> ?_⟩,q5⟩
    · have:=Ow.h id rs _ is q1 q2
      rw[hrs]at this
      unfold cubes
      rw[mks3_len];exact this
    · rcases List.mem_cons.1 hi with rfl|hi
      · simp
      · simp[q4 i hi]
theorem heldCC_g {a:List (List (List Int))} (hok:cubesml a) {k:Int} (hk0:0≤k) (hk1:k≤10000000000000000):ACp Tryz.prog 24 [cubes (mks3 k a),.i .i64 k] (.i .i64 (k+tot3 a)):=by
 have hn:=hok.n
 have hml:=mks3_len a k
 refine ACp.intro' envOk Tryz.func24 rfl (by kernel_rfl) Tryz.ntmps24 Tryz.results24 (.i _ _) (fun nx cX=> ?_)
 refine AW.sr envOk (fun N hN=> ?_)
 simp-dsimp-implicitDefEqProofs (disch:=omega) only[go_sem,undef,cubes,gd_c,w64]
 refine hN _ ?_
 try clear hN N
 refine AW.seq (fun N1 hN1=> ?_)
 refine AW.sr envOk (fun N hN=> ?_)
 simp-dsimp-implicitDefEqProofs (disch:=omega) only[go_sem,undef,cubes,gd_c,w64]
 refine hN _ ?_
 try clear hN N
 refine AW.block ?_
 refine AW.loopN (α:=Nat) (fun x=>sl 21 [(0,cubes (mks3 k a)),(1,.i .i64 (k+tot3 (a.take x))),(5,.i .i64 x)]) (fun _=>noH) (fun x m=>x≤a.length) (fun x=>a.length-x) (0) ?_ ?_ (fun _ _ h=>h) ?_
 ·omega
 ·simp(disch:=omega) [wks,wkA,sl,tot3,cubes]
 ·skip
  rintro i m hi
  simp-dsimp-implicitDefEqProofs (disch:=omega) only[go_sem,undef]
  have htt:=hok.totl i
  refine AW.seq (fun N2 hN2=> ?_)
  refine AW.sr envOk (fun N hN=> ?_)
  simp-dsimp-implicitDefEqProofs (disch:=omega) only[go_sem,undef,cubes,gd_c,w64]
  refine hN _ ?_
  try clear hN N
  refine AW.cond rfl (fun h1=> ?_) (fun h1=> ?_)
  ·try simp only[cn]at h1
   have hia:i<a.length:=by omega
   obtain⟨hxl,hxt⟩:=hok.row i
   have htk:=tot3_take hia
   have hgi:=mks3_get a k i hia
   refine AW.skip ?_
   simp only[thn,blk]
   refine hN2 _ ?_
   try clear hN2 N2
   refine AW.seq (fun N3 hN3=> ?_)
   refine AW.block ?_
   refine AW.sr envOk (fun N hN=> ?_)
   simp-dsimp-implicitDefEqProofs (disch:=omega) only[go_sem,undef,cubes,gd_c,w64]
   rw[hgi]
   refine AC.pure (.of (heldRR_g hxl (by omega) (by omega))) ?_
   try simp-dsimp-implicitDefEqProofs (disch:=omega) only[go_sem,undef,cubes,gd_c,w64]
   refine hN _ ?_
   try clear hN N
   refine AW.sr envOk (fun N hN=> ?_)
   simp-dsimp-implicitDefEqProofs (disch:=omega) only[go_sem,undef,cubes,gd_c,w64]
   refine hN _ ?_
   try clear hN N
   refine AW.cond rfl (fun h2=> ?_) (fun h2=> ?_)
   ·try simp only[cn]at h2
    refine AW.sr envOk (fun N hN=> ?_)
    simp-dsimp-implicitDefEqProofs (disch:=omega) only[go_sem,undef,cubes,gd_c,w64]
    refine hN _ ?_
    try clear hN N
    refine AW.ret ?_
    simp-dsimp-implicitDefEqProofs (disch:=omega) only[go_sem,undef]
    exfalso;omega
   ·try simp only[cn]at h2
    refine AW.skip ?_
    simp only[thn,blk]
    refine hN3 _ ?_
    try clear hN3 N3
    refine AW.regionL envOk ?_
    simp-dsimp-implicitDefEqProofs (disch:=omega) only[go_sem,undef,cubes,gd_c,w64]
    refine⟨i+1,?_,fun _ _ h=>h,?_,?_⟩
    ·simp(disch:=omega) [wks,wkA,sl,w64,htk,cubes]<;>omega
    ·omega
    ·first|omega|(simp only;omega)
  ·try simp only[cn]at h1
   refine AW.exit ?_
   simp only[thn,blk,if_true]
   refine hN1 _ ?_
   try clear hN1 N1
   refine AW.sr envOk (fun N hN=> ?_)
   simp-dsimp-implicitDefEqProofs (disch:=omega) only[go_sem,undef,cubes,gd_c,w64]
   refine hN _ ?_
   try clear hN N
   refine AW.ret ?_
   simp-dsimp-implicitDefEqProofs (disch:=omega) only[go_sem,undef]
   rw[show i=a.length by omega,List.take_length]
theorem laws_eqInt64SSS_l (a b:List (List (List Int))) (ha:cubeslen a) (hb:cubeslen b):ACp Tryz.prog 18 [cubes a,cubes b] (.b (decide (a=b))):=by
 have han:=ha.n
 have hbn:=hb.n
 refine ACp.intro' envOk Tryz.func18 rfl (by kernel_rfl) Tryz.ntmps18 Tryz.results18 (.b _) (fun nx cX=> ?_)
 refine AW.sr envOk (fun N hN=> ?_)
 simp-dsimp-implicitDefEqProofs (disch:=omega) only[go_sem,undef,cubes,gd_c,w64]
 refine hN _ ?_
 try clear hN N
 refine AW.seq (fun N1 hN1=> ?_)
 refine AW.sr envOk (fun N hN=> ?_)
 simp-dsimp-implicitDefEqProofs (disch:=omega) only[go_sem,undef,cubes,gd_c,w64]
 refine hN _ ?_
 try clear hN N
 refine AW.cond rfl (fun h1=> ?_) (fun h1=> ?_)
 ·try simp only[cn]at h1
  refine AW.sr envOk (fun N hN=> ?_)
  simp-dsimp-implicitDefEqProofs (disch:=omega) only[go_sem,undef,cubes,gd_c,w64]
  refine hN _ ?_
  try clear hN N
  refine AW.ret ?_
  simp-dsimp-implicitDefEqProofs (disch:=omega) only[go_sem,undef]
  exact bt (decide_eq_false (fun h=>h1 (by rw[h]))).symm
 ·try simp only[cn]at h1
  have hl:a.length=b.length:=by omega
  refine AW.skip ?_
  simp only[thn,blk]
  refine hN1 _ ?_
  try clear hN1 N1
  refine AW.seq (fun N2 hN2=> ?_)
  refine AW.sr envOk (fun N hN=> ?_)
  simp-dsimp-implicitDefEqProofs (disch:=omega) only[go_sem,undef,cubes,gd_c,w64]
  refine hN _ ?_
  try clear hN N
  refine AW.block ?_
  refine AW.loopN (α:=Nat) (fun x=>sl 27 [(0,cubes a),(1,cubes b),(5,.i .i64 x)]) (fun _=>noH) (fun x m=>x≤a.length∧a.take x=b.take x) (fun x=>a.length-x) (0) ?_ ?_ (fun _ _ h=>h) ?_
  ·exact⟨by omega,rfl⟩
  ·simp(disch:=omega) [wks,wkA,sl,w64,ints,rows,cubes,cubes,gd_c,w64]<;>omega
  ·skip
   rintro k m ⟨hk,hI⟩
   simp-dsimp-implicitDefEqProofs (disch:=omega) only[go_sem,undef]
   refine AW.seq (fun N3 hN3=> ?_)
   refine AW.sr envOk (fun N hN=> ?_)
   simp-dsimp-implicitDefEqProofs (disch:=omega) only[go_sem,undef,cubes,gd_c,w64]
   refine hN _ ?_
   try clear hN N
   refine AW.cond rfl (fun h2=> ?_) (fun h2=> ?_)
   ·try simp only[cn]at h2
    have hak:rowslen (a.getD k []):=getD_mem ha.v .nil k
    have hbk:rowslen (b.getD k []):=getD_mem hb.v .nil k
    refine AW.skip ?_
    simp only[thn,blk]
    refine hN3 _ ?_
    try clear hN3 N3
    refine AW.seq (fun N4 hN4=> ?_)
    refine AW.block ?_
    refine AW.seq (fun N hN=> ?_)
    refine AW.drawL envOk (by kernel_rfl) 10 (by kernel_rfl) ?_
    simp-dsimp-implicitDefEqProofs (disch:=omega) only[hr_nil,hr_one,hr_if,List.take_succ_cons,List.take_zero,List.drop_succ_cons,List.drop_zero,List.take_nil,List.drop_nil,go_sem,undef,cubes,gd_c,w64]
    refine⟨_,.of (laws_eqInt64SS_l (a.getD k []) (b.getD k []) hak hbk),?_⟩
    try simp-dsimp-implicitDefEqProofs (disch:=omega) only[go_sem,undef,cubes,gd_c,w64]
    refine hN _ ?_
    try clear hN N
    refine AW.cond rfl (fun h3=> ?_) (fun h3=> ?_)
    ·try simp only[cn]at h3
     refine AW.sr envOk (fun N hN=> ?_)
     simp-dsimp-implicitDefEqProofs (disch:=omega) only[go_sem,undef,cubes,gd_c,w64]
     refine hN _ ?_
     try clear hN N
     refine AW.ret ?_
     simp-dsimp-implicitDefEqProofs (disch:=omega) only[go_sem,undef]
     exact bt (decide_eq_false (fun h=>h3 (by rw[h]))).symm
    ·try simp only[cn]at h3
     refine AW.skip ?_
     simp only[thn,blk]
     refine hN4 _ ?_
     try clear hN4 N4
     refine AW.regionL envOk ?_
     simp-dsimp-implicitDefEqProofs (disch:=omega) only[go_sem,undef,cubes,gd_c,w64]
     refine⟨k+1,?_,fun _ _ h=>h,?_,?_⟩
     ·simp(disch:=omega) [wks,wkA,sl,w64,ints,rows,cubes,cubes,gd_c,w64]<;>omega
     ·exact⟨by omega,take_ext [] hl (by omega) hI h3⟩
     ·first|omega|(simp only;omega)
   ·try simp only[cn]at h2
    refine AW.exit ?_
    simp only[thn,blk,if_true]
    refine hN2 _ ?_
    try clear hN2 N2
    refine AW.sr envOk (fun N hN=> ?_)
    simp-dsimp-implicitDefEqProofs (disch:=omega) only[go_sem,undef,cubes,gd_c,w64]
    refine hN _ ?_
    try clear hN N
    refine AW.ret ?_
    simp-dsimp-implicitDefEqProofs (disch:=omega) only[go_sem,undef]
    have hk':k=a.length:=by omega
    subst hk'
    rw[List.take_length,hl,List.take_length]at hI
    exact bt (decide_eq_true hI).symm
end Go.Proofs.YthncdadmkppclaaGreatDoor
