import Derived.Test.YtnlfbimjcabgiaaGreatZ12
set_option linter.unusedVariables false
set_option linter.unusedSimpArgs false
namespace Go.Proofs.YtnlfbimjcabgiaaGreat
open Nat (reduceAdd reduceSub reduceGT reduceEqDiff reduceMul)
theorem Ow.ints_inv {H:HP} {r:AV} {a:List Int} {ids:List Nat} (h:Ow H r (Go.Proofs.YtnlfbimjcabgiaaGreat.ints a) ids):(a=[]∧(r= .nl∨r= .v 0 []))∨∃id,r= .h id 0 a.length∧id∈ids∧H id=some (ivs a.length (fun j=>a.getD j 0)):=by
  unfold Go.Proofs.YtnlfbimjcabgiaaGreat.ints at h
  generalize hX:AV.v a.length (a.map (AV.i .i64))=X at h
  cases h with
  | leaf _ hf hn=>
    subst hX
    cases a with
    |nil=>exact .inl ⟨rfl,.inr rfl⟩
    |cons x xs=>cases hf
  | nl=>
    injection hX with h1 h2
    cases a with
    |nil=>exact .inl ⟨rfl,.inl rfl⟩
    |cons x xs=>simp at h1
  | h id cs ts ids' h1 h2=>
    injection hX with e1 e2
    subst e2
    have h3:cs=a.map (AV.i .i64):=by
      apply List.ext_getElem?
      intro k
      by_cases hk:k<cs.length
      · obtain⟨y,is,g1,g2,_⟩:=h2.get k cs[k] (List.getElem?_eq_getElem hk)
        rw[List.getElem?_eq_getElem hk,g1]
        simp only[List.getElem?_map,Option.map_eq_some_iff]at g1
        obtain⟨z,_,rfl⟩:=g1
        generalize cs[k]=x at g2
        cases g2
        rfl
      · rw[List.getElem?_eq_none (Nat.le_of_not_lt hk),List.getElem?_eq_none (by rw[h2.len];omega)]
    refine .inr ⟨id,by rw[e1],by simp,?_⟩
    rw[h1,h3,map_ivs]
  |q id cs ts ids' h1 h2=>cases hX
  |g cs ts ids' h2=>cases hX
  |t cs ts ids' h2=>cases hX
theorem Ow.rows_inv {H:HP} {r:AV} {a:List (List Int)} {ids:List Nat} (h:Ow H r (rows a) ids):(a=[]∧(r= .nl∨r= .v 0 []))∨∃id rs js,r= .h id 0 a.length∧ids=id::js∧rs.length=a.length∧H id=some rs∧OwL H rs (a.map Go.Proofs.YtnlfbimjcabgiaaGreat.ints) js:=by
  unfold rows at h
  generalize hX:AV.v a.length (a.map Go.Proofs.YtnlfbimjcabgiaaGreat.ints)=X at h
  cases h with
  | leaf _ hf hn=>
    subst hX
    cases a with
    |nil=>exact .inl ⟨rfl,.inr rfl⟩
    |cons x xs=>cases hf
  | nl=>
    injection hX with h1 h2
    cases a with
    |nil=>exact .inl ⟨rfl,.inl rfl⟩
    |cons x xs=>simp at h1
  | h id cs ts ids' h1 h2=>
    injection hX with e1 e2
    subst e2
    exact .inr ⟨id,cs,ids',by rw[e1],rfl,e1.symm,h1,h2⟩
  |q id cs ts ids' h1 h2=>cases hX
  |g cs ts ids' h2=>cases hX
  |t cs ts ids' h2=>cases hX
theorem Ow.cubes_inv {H:HP} {r:AV} {a:List (List (List Int))} {ids:List Nat} (h:Ow H r (cubes a) ids):(a=[]∧(r= .nl∨r= .v 0 []))∨∃id rs js,r= .h id 0 a.length∧ids=id::js∧rs.length=a.length∧H id=some rs∧OwL H rs (a.map rows) js:=by
  unfold cubes at h
  generalize hX:AV.v a.length (a.map rows)=X at h
  cases h with
  | leaf _ hf hn=>
    subst hX
    cases a with
    |nil=>exact .inl ⟨rfl,.inr rfl⟩
    |cons x xs=>cases hf
  | nl=>
    injection hX with h1 h2
    cases a with
    |nil=>exact .inl ⟨rfl,.inl rfl⟩
    |cons x xs=>simp at h1
  | h id cs ts ids' h1 h2=>
    injection hX with e1 e2
    subst e2
    exact .inr ⟨id,cs,ids',by rw[e1],rfl,e1.symm,h1,h2⟩
  |q id cs ts ids' h1 h2=>cases hX
  |g cs ts ids' h2=>cases hX
  |t cs ts ids' h2=>cases hX
theorem laws_markInt64S_h (id n:Nat) (f:Nat→Int) (k:Int) (nx:Nat) (H:HP) (hH:H id=some (ivs n f)) (hn:n≤1048576) (hk0:0≤k) (hk1:k≤4611686018427387904):
 AC Tryz.prog 43 nx H [.h id 0 n,.i .i64 k] (fun nx' H' r=>r= .i .i64 (k+n)∧H'=upd H id (some (ivs n (fun j=>k+j)))):=by
 refine AC.introx envOk Tryz.func43 rfl (by kernel_rfl) Tryz.ntmps43 Tryz.results43 (fun hfr=> ?_)
 refine AW.sr envOk (fun N hN=> ?_)
 simp-dsimp-implicitDefEqProofs (disch:=omega) only[go_sem,undef,w64]
 refine hN _ ?_
 try clear hN N
 refine AW.seq (fun N1 hN1=> ?_)
 refine AW.sr envOk (fun N hN=> ?_)
 simp-dsimp-implicitDefEqProofs (disch:=omega) only[go_sem,undef,w64]
 refine hN _ ?_
 try clear hN N
 refine AW.block ?_
 refine AW.loopN (α:=Nat) (fun x=>sl 19 [(0,.h id 0 n),(1,.i .i64 (k+(x:Int))),(5,.i .i64 x)]) (fun x=>upd H id (some (ivs n (fun j=>if j<x then k+(j:Int)else f j)))) (fun x m=>x≤n) (fun x=>n-x) (0) ?_ ?_ (by simp only[Nat.not_lt_zero,if_false];exact upd_le (fun i c _ h=>h) (fun d hd=>by cases hd;exact hH)) ?_
 ·omega
 ·simp(disch:=omega) [wks,wkA,sl,w64,ints,rows,cubes,w64]<;>omega
 ·skip
  rintro i m hi
  simp-dsimp-implicitDefEqProofs (disch:=omega) only[go_sem,undef]
  refine AW.seq (fun N2 hN2=> ?_)
  refine AW.sr envOk (fun N hN=> ?_)
  simp-dsimp-implicitDefEqProofs (disch:=omega) only[go_sem,undef,w64]
  refine hN _ ?_
  try clear hN N
  refine AW.cond rfl (fun h1=> ?_) (fun h1=> ?_)
  ·try simp only[cn]at h1
   refine AW.skip ?_
   simp only[thn,blk]
   refine hN2 _ ?_
   try clear hN2 N2
   refine AW.seq (fun N3 hN3=> ?_)
   refine AW.block ?_
   refine AW.sr envOk (fun N hN=> ?_)
   simp-dsimp-implicitDefEqProofs (disch:=omega) only[go_sem,undef,w64]
   refine hN _ ?_
   try clear hN N
   refine AW.regionL envOk ?_
   simp-dsimp-implicitDefEqProofs (disch:=omega) only[go_sem,undef,w64]
   refine hN3 _ ?_
   try clear hN3 N3
   refine AW.regionL envOk ?_
   simp-dsimp-implicitDefEqProofs (disch:=omega) only[go_sem,undef,w64]
   refine⟨i+1,?_,by rw[fset_if (g:=fun j=>k+(j:Int)) rfl];exact Le.refl _,?_,?_⟩
   ·simp(disch:=omega) [wks,wkA,sl,w64,ints,rows,cubes,w64]<;>omega
   ·omega
   ·first|omega|(simp only;omega)
  ·try simp only[cn]at h1
   refine AW.exit ?_
   simp only[thn,blk,if_true]
   refine hN1 _ ?_
   try clear hN1 N1
   refine AW.sr envOk (fun N hN=> ?_)
   simp-dsimp-implicitDefEqProofs (disch:=omega) only[go_sem,undef,w64]
   refine hN _ ?_
   try clear hN N
   refine AW.ret ?_
   simp-dsimp-implicitDefEqProofs (disch:=omega) only[go_sem,undef]
   have hi':i=n:=by omega
   subst hi'
   exact⟨_,Le.refl _,rfl,by rw[ivs_ext (f:=fun j=>if j<i then k+(j:Int)else f j) (g:=fun j=>k+(j:Int)) (fun j hj=>by simp only[hj,if_true])]⟩
theorem laws_markInt64S_nl (k:Int) (nx:Nat) (H:HP):AC Tryz.prog 43 nx H [.nl,.i .i64 k] (fun nx' H' r=>r= .i .i64 k∧H'=H):=by
 refine AC.introx envOk Tryz.func43 rfl (by kernel_rfl) Tryz.ntmps43 Tryz.results43 (fun hfr=> ?_)
 refine AW.sr envOk (fun N hN=> ?_)
 simp-dsimp-implicitDefEqProofs (disch:=omega) only[go_sem,undef,]
 refine hN _ ?_
 try clear hN N
 refine AW.seq (fun N1 hN1=> ?_)
 refine AW.sr envOk (fun N hN=> ?_)
 simp-dsimp-implicitDefEqProofs (disch:=omega) only[go_sem,undef,]
 refine hN _ ?_
 try clear hN N
 refine AW.block ?_
 refine AW.loop1 ?_
 refine AW.seq (fun N2 hN2=> ?_)
 refine AW.sr envOk (fun N hN=> ?_)
 simp-dsimp-implicitDefEqProofs (disch:=omega) only[go_sem,undef,]
 refine hN _ ?_
 try clear hN N
 refine AW.cond rfl (fun h=>absurd h (by first|(simp;done)|(simp only[decide_eq_true_eq];omega))) (fun _=> ?_)
 refine AW.exit ?_
 simp only[thn,blk,if_true]
 refine hN1 _ ?_
 try clear hN1 N1
 refine AW.sr envOk (fun N hN=> ?_)
 simp-dsimp-implicitDefEqProofs (disch:=omega) only[go_sem,undef,]
 refine hN _ ?_
 try clear hN N
 refine AW.ret ?_
 simp-dsimp-implicitDefEqProofs (disch:=omega) only[go_sem,undef]
 exact⟨_,Le.refl _,rfl⟩
theorem laws_markInt64S_v0 (k:Int) (nx:Nat) (H:HP):AC Tryz.prog 43 nx H [.v 0 [],.i .i64 k] (fun nx' H' r=>r= .i .i64 k∧H'=H):=by
 refine AC.introx envOk Tryz.func43 rfl (by kernel_rfl) Tryz.ntmps43 Tryz.results43 (fun hfr=> ?_)
 refine AW.sr envOk (fun N hN=> ?_)
 simp-dsimp-implicitDefEqProofs (disch:=omega) only[go_sem,undef,]
 refine hN _ ?_
 try clear hN N
 refine AW.seq (fun N1 hN1=> ?_)
 refine AW.sr envOk (fun N hN=> ?_)
 simp-dsimp-implicitDefEqProofs (disch:=omega) only[go_sem,undef,]
 refine hN _ ?_
 try clear hN N
 refine AW.block ?_
 refine AW.loop1 ?_
 refine AW.seq (fun N2 hN2=> ?_)
 refine AW.sr envOk (fun N hN=> ?_)
 simp-dsimp-implicitDefEqProofs (disch:=omega) only[go_sem,undef,]
 refine hN _ ?_
 try clear hN N
 refine AW.cond rfl (fun h=>absurd h (by first|(simp;done)|(simp only[decide_eq_true_eq];omega))) (fun _=> ?_)
 refine AW.exit ?_
 simp only[thn,blk,if_true]
 refine hN1 _ ?_
 try clear hN1 N1
 refine AW.sr envOk (fun N hN=> ?_)
 simp-dsimp-implicitDefEqProofs (disch:=omega) only[go_sem,undef,]
 refine hN _ ?_
 try clear hN N
 refine AW.ret ?_
 simp-dsimp-implicitDefEqProofs (disch:=omega) only[go_sem,undef]
 exact⟨_,Le.refl _,rfl⟩
def MarkC {α:Type} (f:FuncId) (enc:α→AV) (ok:α→Prop) (B C:Int):Prop:=
  ∀ (nx:Nat) (H:HP) (r:AV) (X:α) (ids:List Nat) (k:Int),Ow H r (enc X) ids→ids.Nodup→ok X→0≤k→k≤C→
    AC Tryz.prog f nx H [r,.i .i64 k] (fun _ H' res=>∃k':Int,res= .i .i64 k'∧k≤k'∧k'≤k+B∧∀i,i∉ids→H' i=H i)
theorem laws_markInt64S_c:MarkC 43 Go.Proofs.YtnlfbimjcabgiaaGreat.ints (fun a=>a.length≤1048576) 1048576 4000000000000000000:=by
  intro nx H r a ids k ho hnd hok h0 h1
  rcases ho.ints_inv with ⟨rfl,rfl|rfl⟩|⟨id,rfl,hid,hH⟩
  · exact(laws_markInt64S_nl k nx H).mono (fun _ _ _ ⟨h1,h2⟩=>by subst h1;subst h2;exact⟨k,rfl,by omega,by omega,fun _ _=>rfl⟩)
  · exact(laws_markInt64S_v0 k nx H).mono (fun _ _ _ ⟨h1,h2⟩=>by subst h1;subst h2;exact⟨k,rfl,by omega,by omega,fun _ _=>rfl⟩)
  · exact(laws_markInt64S_h id a.length _ k nx H hH hok h0 (by omega)).mono (fun _ _ _ ⟨h1,h2⟩=>by subst h1;subst h2;exact⟨_,rfl,by omega,by have:a.length≤1048576:=hok;omega,fun i hi=>upd_ne _ _ (fun e=>hi (by rw[e];exact hid))⟩)
theorem laws_markInt64SS_h (id:Nat) (rs:List AV) (xs:List (List Int)) (js:List Nat) (k:Int) (nx:Nat) (H:HP) (hH:H id=some rs) (hrs:rs.length=xs.length) (ho:OwL H rs (xs.map Go.Proofs.YtnlfbimjcabgiaaGreat.ints) js) (hnd:(id::js).Nodup) (hok:rowslen xs) (hk0:0≤k) (hk1:k≤3500000000000000000):
 AC Tryz.prog 44 nx H [.h id 0 xs.length,.i .i64 k] (fun _ H' res=>∃k':Int,res= .i .i64 k'∧k≤k'∧k'≤k+1099511627776∧∀i,i∉id::js→H' i=H i):=by
 have hxn:=hok.n
 refine AC.introx envOk Tryz.func44 rfl (by kernel_rfl) Tryz.ntmps44 Tryz.results44 (fun hfr=> ?_)
 refine AW.sr envOk (fun N hN=> ?_)
 simp-dsimp-implicitDefEqProofs (disch:=omega) only[go_sem,undef,w64]
 refine hN _ ?_
 try clear hN N
 refine AW.seq (fun N1 hN1=> ?_)
 refine AW.sr envOk (fun N hN=> ?_)
 simp-dsimp-implicitDefEqProofs (disch:=omega) only[go_sem,undef,w64]
 refine hN _ ?_
 try clear hN N
 refine AW.block ?_
 refine AW.loopN (α:=Nat×Int×HP×List Nat) (fun x=>sl 19 [(0,.h id 0 xs.length),(1,.i .i64 x.2.1),(5,.i .i64 x.1)]) (fun x=>x.2.2.1) (fun x m=>x.1≤xs.length∧k≤x.2.1∧x.2.1≤k+1048576*x.1∧(∀j,j∉id::js→x.2.2.1 j=H j)∧x.2.2.1 id=some rs∧OwL x.2.2.1 (rs.drop x.1) ((xs.map Go.Proofs.YtnlfbimjcabgiaaGreat.ints).drop x.1) x.2.2.2∧x.2.2.2.Nodup∧(∀j∈x.2.2.2,j∈js)) (fun x=>xs.length-x.1) ((0,k,H,js)) ?_ ?_ (fun _ _ h=>h) ?_
 ·exact⟨by simp,by simp,by simp,fun _ _=>rfl,hH,by simpa using ho,(List.nodup_cons.1 hnd).2,fun _ h=>h⟩
 ·simp(disch:=omega) [wks,wkA,sl,w64,ints,rows,cubes,w64]<;>omega
 ·skip
  rintro⟨i,c,G,qs⟩ m ⟨hi,hc0,hc1,hG,hGid,hGo,hqn,hqs⟩
  simp only at hi hc0 hc1 hG hGid hGo hqn hqs
  simp-dsimp-implicitDefEqProofs (disch:=omega) only[go_sem,undef]
  refine AW.seq (fun N2 hN2=> ?_)
  refine AW.sr envOk (fun N hN=> ?_)
  simp-dsimp-implicitDefEqProofs (disch:=omega) only[go_sem,undef,w64]
  refine hN _ ?_
  try clear hN N
  refine AW.cond rfl (fun h1=> ?_) (fun h1=> ?_)
  ·try simp only[cn]at h1
   have hir:i<rs.length:=by omega
   have hix:i<(xs.map Go.Proofs.YtnlfbimjcabgiaaGreat.ints).length:=by simp;omega
   rw[List.drop_eq_getElem_cons hir,List.drop_eq_getElem_cons hix]at hGo
   obtain⟨is,qs',rfl,hx1,hx2⟩:∃is qs',qs=is++qs'∧Ow G rs[i] ((xs.map Go.Proofs.YtnlfbimjcabgiaaGreat.ints)[i]) is∧OwL G (rs.drop (i+1)) ((xs.map Go.Proofs.YtnlfbimjcabgiaaGreat.ints).drop (i+1)) qs':=by
    cases hGo with|cons _ _ _ _ is js' g1 g2=>exact⟨is,js',rfl,g1,g2⟩
   have hri:rs.getD i .j=rs[i]:=by simp[hir]
   rw[List.getElem_map]at hx1
   obtain⟨n1,n2,n3⟩:=List.nodup_append.1 hqn
   have hidj:=(List.nodup_cons.1 hnd).1
   refine AW.skip ?_
   simp only[thn,blk]
   refine hN2 _ ?_
   try clear hN2 N2
   refine AW.seq (fun N3 hN3=> ?_)
   refine AW.block ?_
   refine AW.regionL envOk ?_
   simp-dsimp-implicitDefEqProofs (disch:=omega) only[go_sem,undef,w64]
   try simp-dsimp-implicitDefEqProofs (disch:=omega) only[go_sem,undef,hGid,hri]
   refine(laws_markInt64S_c _ _ _ xs[i] is c hx1 n1 (hok.v _ (List.getElem_mem _)) (by omega) (by omega)).mono ?_
   rintro _ G2 res ⟨c',rfl,hc2,hc3,hG2⟩
   try simp-dsimp-implicitDefEqProofs (disch:=omega) only[go_sem,undef,w64]
   refine hN3 _ ?_
   try clear hN3 N3
   refine AW.regionL envOk ?_
   simp-dsimp-implicitDefEqProofs (disch:=omega) only[go_sem,undef,w64]
   refine⟨(i+1,c',G2,qs'),?_,fun _ _ h=>h,?_,?_⟩
   ·simp(disch:=omega) [wks,wkA,sl,w64,ints,rows,cubes,w64]<;>omega
   ·refine⟨by simp only;omega,by simp only;omega,by simp only;omega,fun j hj=> ?_,?_,hx2.keep (fun j hj=>hG2 j (fun h=>n3 j h j hj rfl)),n2,fun j hj=>hqs j (by simp[hj])⟩
    ·show G2 j=H j
     rw[hG2 j (fun h=>hj (by simp[hqs j (by simp[h])]))]
     exact hG j hj
    ·show G2 id=some rs
     rw[hG2 id (fun h=>hidj (hqs id (by simp[h])))]
     exact hGid
   ·first|omega|(simp only;omega)
  ·try simp only[cn]at h1
   refine AW.exit ?_
   simp only[thn,blk,if_true]
   refine hN1 _ ?_
   try clear hN1 N1
   refine AW.sr envOk (fun N hN=> ?_)
   simp-dsimp-implicitDefEqProofs (disch:=omega) only[go_sem,undef,w64]
   refine hN _ ?_
   try clear hN N
   refine AW.ret ?_
   simp-dsimp-implicitDefEqProofs (disch:=omega) only[go_sem,undef]
   exact⟨_,Le.refl _,c,rfl,hc0,by omega,hG⟩
theorem laws_markInt64SS_nl (k:Int) (nx:Nat) (H:HP):AC Tryz.prog 44 nx H [.nl,.i .i64 k] (fun nx' H' r=>r= .i .i64 k∧H'=H):=by
 refine AC.introx envOk Tryz.func44 rfl (by kernel_rfl) Tryz.ntmps44 Tryz.results44 (fun hfr=> ?_)
 refine AW.sr envOk (fun N hN=> ?_)
 simp-dsimp-implicitDefEqProofs (disch:=omega) only[go_sem,undef,]
 refine hN _ ?_
 try clear hN N
 refine AW.seq (fun N1 hN1=> ?_)
 refine AW.sr envOk (fun N hN=> ?_)
 simp-dsimp-implicitDefEqProofs (disch:=omega) only[go_sem,undef,]
 refine hN _ ?_
 try clear hN N
 refine AW.block ?_
 refine AW.loop1 ?_
 refine AW.seq (fun N2 hN2=> ?_)
 refine AW.sr envOk (fun N hN=> ?_)
 simp-dsimp-implicitDefEqProofs (disch:=omega) only[go_sem,undef,]
 refine hN _ ?_
 try clear hN N
 refine AW.cond rfl (fun h=>absurd h (by first|(simp;done)|(simp only[decide_eq_true_eq];omega))) (fun _=> ?_)
 refine AW.exit ?_
 simp only[thn,blk,if_true]
 refine hN1 _ ?_
 try clear hN1 N1
 refine AW.sr envOk (fun N hN=> ?_)
 simp-dsimp-implicitDefEqProofs (disch:=omega) only[go_sem,undef,]
 refine hN _ ?_
 try clear hN N
 refine AW.ret ?_
 simp-dsimp-implicitDefEqProofs (disch:=omega) only[go_sem,undef]
 exact⟨_,Le.refl _,rfl⟩
theorem laws_markInt64SS_v0 (k:Int) (nx:Nat) (H:HP):AC Tryz.prog 44 nx H [.v 0 [],.i .i64 k] (fun nx' H' r=>r= .i .i64 k∧H'=H):=by
 refine AC.introx envOk Tryz.func44 rfl (by kernel_rfl) Tryz.ntmps44 Tryz.results44 (fun hfr=> ?_)
 refine AW.sr envOk (fun N hN=> ?_)
 simp-dsimp-implicitDefEqProofs (disch:=omega) only[go_sem,undef,]
 refine hN _ ?_
 try clear hN N
 refine AW.seq (fun N1 hN1=> ?_)
 refine AW.sr envOk (fun N hN=> ?_)
 simp-dsimp-implicitDefEqProofs (disch:=omega) only[go_sem,undef,]
 refine hN _ ?_
 try clear hN N
 refine AW.block ?_
 refine AW.loop1 ?_
 refine AW.seq (fun N2 hN2=> ?_)
 refine AW.sr envOk (fun N hN=> ?_)
 simp-dsimp-implicitDefEqProofs (disch:=omega) only[go_sem,undef,]
 refine hN _ ?_
 try clear hN N
 refine AW.cond rfl (fun h=>absurd h (by first|(simp;done)|(simp only[decide_eq_true_eq];omega))) (fun _=> ?_)
 refine AW.exit ?_
 simp only[thn,blk,if_true]
 refine hN1 _ ?_
 try clear hN1 N1
 refine AW.sr envOk (fun N hN=> ?_)
 simp-dsimp-implicitDefEqProofs (disch:=omega) only[go_sem,undef,]
 refine hN _ ?_
 try clear hN N
 refine AW.ret ?_
 simp-dsimp-implicitDefEqProofs (disch:=omega) only[go_sem,undef]
 exact⟨_,Le.refl _,rfl⟩
theorem laws_markInt64SS_c:MarkC 44 rows rowslen 1099511627776 3500000000000000000:=by
  intro nx H r a ids k ho hnd hok h0 h1
  rcases ho.rows_inv with ⟨rfl,rfl|rfl⟩|⟨id,rs,js,rfl,rfl,hrs,hH,hL⟩
  · exact(laws_markInt64SS_nl k nx H).mono (fun _ _ _ ⟨h1,h2⟩=>by subst h1;subst h2;exact⟨k,rfl,by omega,by omega,fun _ _=>rfl⟩)
  · exact(laws_markInt64SS_v0 k nx H).mono (fun _ _ _ ⟨h1,h2⟩=>by subst h1;subst h2;exact⟨k,rfl,by omega,by omega,fun _ _=>rfl⟩)
  · exact laws_markInt64SS_h id rs a js k nx H hH hrs hL hnd hok h0 h1
theorem laws_markInt64SSS_h (id:Nat) (rs:List AV) (xs:List (List (List Int))) (js:List Nat) (k:Int) (nx:Nat) (H:HP) (hH:H id=some rs) (hrs:rs.length=xs.length) (ho:OwL H rs (xs.map rows) js) (hnd:(id::js).Nodup) (hok:cubeslen xs) (hk0:0≤k) (hk1:k≤2000000000000000000):
 AC Tryz.prog 45 nx H [.h id 0 xs.length,.i .i64 k] (fun _ H' res=>∃k':Int,res= .i .i64 k'∧k≤k'∧k'≤k+1152921504606846976∧∀i,i∉id::js→H' i=H i):=by
 have hxn:=hok.n
 refine AC.introx envOk Tryz.func45 rfl (by kernel_rfl) Tryz.ntmps45 Tryz.results45 (fun hfr=> ?_)
 refine AW.sr envOk (fun N hN=> ?_)
 simp-dsimp-implicitDefEqProofs (disch:=omega) only[go_sem,undef,w64]
 refine hN _ ?_
 try clear hN N
 refine AW.seq (fun N1 hN1=> ?_)
 refine AW.sr envOk (fun N hN=> ?_)
 simp-dsimp-implicitDefEqProofs (disch:=omega) only[go_sem,undef,w64]
 refine hN _ ?_
 try clear hN N
 refine AW.block ?_
 refine AW.loopN (α:=Nat×Int×HP×List Nat) (fun x=>sl 19 [(0,.h id 0 xs.length),(1,.i .i64 x.2.1),(5,.i .i64 x.1)]) (fun x=>x.2.2.1) (fun x m=>x.1≤xs.length∧k≤x.2.1∧x.2.1≤k+1099511627776*x.1∧(∀j,j∉id::js→x.2.2.1 j=H j)∧x.2.2.1 id=some rs∧OwL x.2.2.1 (rs.drop x.1) ((xs.map rows).drop x.1) x.2.2.2∧x.2.2.2.Nodup∧(∀j∈x.2.2.2,j∈js)) (fun x=>xs.length-x.1) ((0,k,H,js)) ?_ ?_ (fun _ _ h=>h) ?_
 ·exact⟨by simp,by simp,by simp,fun _ _=>rfl,hH,by simpa using ho,(List.nodup_cons.1 hnd).2,fun _ h=>h⟩
 ·simp(disch:=omega) [wks,wkA,sl,w64,ints,rows,cubes,w64]<;>omega
 ·skip
  rintro⟨i,c,G,qs⟩ m ⟨hi,hc0,hc1,hG,hGid,hGo,hqn,hqs⟩
  simp only at hi hc0 hc1 hG hGid hGo hqn hqs
  simp-dsimp-implicitDefEqProofs (disch:=omega) only[go_sem,undef]
  refine AW.seq (fun N2 hN2=> ?_)
  refine AW.sr envOk (fun N hN=> ?_)
  simp-dsimp-implicitDefEqProofs (disch:=omega) only[go_sem,undef,w64]
  refine hN _ ?_
  try clear hN N
  refine AW.cond rfl (fun h1=> ?_) (fun h1=> ?_)
  ·try simp only[cn]at h1
   have hir:i<rs.length:=by omega
   have hix:i<(xs.map rows).length:=by simp;omega
   rw[List.drop_eq_getElem_cons hir,List.drop_eq_getElem_cons hix]at hGo
   obtain⟨is,qs',rfl,hx1,hx2⟩:∃is qs',qs=is++qs'∧Ow G rs[i] ((xs.map rows)[i]) is∧OwL G (rs.drop (i+1)) ((xs.map rows).drop (i+1)) qs':=by
    cases hGo with|cons _ _ _ _ is js' g1 g2=>exact⟨is,js',rfl,g1,g2⟩
   have hri:rs.getD i .j=rs[i]:=by simp[hir]
   rw[List.getElem_map]at hx1
   obtain⟨n1,n2,n3⟩:=List.nodup_append.1 hqn
   have hidj:=(List.nodup_cons.1 hnd).1
   refine AW.skip ?_
   simp only[thn,blk]
   refine hN2 _ ?_
   try clear hN2 N2
   refine AW.seq (fun N3 hN3=> ?_)
   refine AW.block ?_
   refine AW.regionL envOk ?_
   simp-dsimp-implicitDefEqProofs (disch:=omega) only[go_sem,undef,w64]
   try simp-dsimp-implicitDefEqProofs (disch:=omega) only[go_sem,undef,hGid,hri]
   refine(laws_markInt64SS_c _ _ _ xs[i] is c hx1 n1 (hok.v _ (List.getElem_mem _)) (by omega) (by omega)).mono ?_
   rintro _ G2 res ⟨c',rfl,hc2,hc3,hG2⟩
   try simp-dsimp-implicitDefEqProofs (disch:=omega) only[go_sem,undef,w64]
   refine hN3 _ ?_
   try clear hN3 N3
   refine AW.regionL envOk ?_
   simp-dsimp-implicitDefEqProofs (disch:=omega) only[go_sem,undef,w64]
   refine⟨(i+1,c',G2,qs'),?_,fun _ _ h=>h,?_,?_⟩
   ·simp(disch:=omega) [wks,wkA,sl,w64,ints,rows,cubes,w64]<;>omega
   ·refine⟨by simp only;omega,by simp only;omega,by simp only;omega,fun j hj=> ?_,?_,hx2.keep (fun j hj=>hG2 j (fun h=>n3 j h j hj rfl)),n2,fun j hj=>hqs j (by simp[hj])⟩
    ·show G2 j=H j
     rw[hG2 j (fun h=>hj (by simp[hqs j (by simp[h])]))]
     exact hG j hj
    ·show G2 id=some rs
     rw[hG2 id (fun h=>hidj (hqs id (by simp[h])))]
     exact hGid
   ·first|omega|(simp only;omega)
  ·try simp only[cn]at h1
   refine AW.exit ?_
   simp only[thn,blk,if_true]
   refine hN1 _ ?_
   try clear hN1 N1
   refine AW.sr envOk (fun N hN=> ?_)
   simp-dsimp-implicitDefEqProofs (disch:=omega) only[go_sem,undef,w64]
   refine hN _ ?_
   try clear hN N
   refine AW.ret ?_
   simp-dsimp-implicitDefEqProofs (disch:=omega) only[go_sem,undef]
   exact⟨_,Le.refl _,c,rfl,hc0,by omega,hG⟩
theorem laws_markInt64SSS_nl (k:Int) (nx:Nat) (H:HP):AC Tryz.prog 45 nx H [.nl,.i .i64 k] (fun nx' H' r=>r= .i .i64 k∧H'=H):=by
 refine AC.introx envOk Tryz.func45 rfl (by kernel_rfl) Tryz.ntmps45 Tryz.results45 (fun hfr=> ?_)
 refine AW.sr envOk (fun N hN=> ?_)
 simp-dsimp-implicitDefEqProofs (disch:=omega) only[go_sem,undef,]
 refine hN _ ?_
 try clear hN N
 refine AW.seq (fun N1 hN1=> ?_)
 refine AW.sr envOk (fun N hN=> ?_)
 simp-dsimp-implicitDefEqProofs (disch:=omega) only[go_sem,undef,]
 refine hN _ ?_
 try clear hN N
 refine AW.block ?_
 refine AW.loop1 ?_
 refine AW.seq (fun N2 hN2=> ?_)
 refine AW.sr envOk (fun N hN=> ?_)
 simp-dsimp-implicitDefEqProofs (disch:=omega) only[go_sem,undef,]
 refine hN _ ?_
 try clear hN N
 refine AW.cond rfl (fun h=>absurd h (by first|(simp;done)|(simp only[decide_eq_true_eq];omega))) (fun _=> ?_)
 refine AW.exit ?_
 simp only[thn,blk,if_true]
 refine hN1 _ ?_
 try clear hN1 N1
 refine AW.sr envOk (fun N hN=> ?_)
 simp-dsimp-implicitDefEqProofs (disch:=omega) only[go_sem,undef,]
 refine hN _ ?_
 try clear hN N
 refine AW.ret ?_
 simp-dsimp-implicitDefEqProofs (disch:=omega) only[go_sem,undef]
 exact⟨_,Le.refl _,rfl⟩
theorem laws_markInt64SSS_v0 (k:Int) (nx:Nat) (H:HP):AC Tryz.prog 45 nx H [.v 0 [],.i .i64 k] (fun nx' H' r=>r= .i .i64 k∧H'=H):=by
 refine AC.introx envOk Tryz.func45 rfl (by kernel_rfl) Tryz.ntmps45 Tryz.results45 (fun hfr=> ?_)
 refine AW.sr envOk (fun N hN=> ?_)
 simp-dsimp-implicitDefEqProofs (disch:=omega) only[go_sem,undef,]
 refine hN _ ?_
 try clear hN N
 refine AW.seq (fun N1 hN1=> ?_)
 refine AW.sr envOk (fun N hN=> ?_)
 simp-dsimp-implicitDefEqProofs (disch:=omega) only[go_sem,undef,]
 refine hN _ ?_
 try clear hN N
 refine AW.block ?_
 refine AW.loop1 ?_
 refine AW.seq (fun N2 hN2=> ?_)
 refine AW.sr envOk (fun N hN=> ?_)
 simp-dsimp-implicitDefEqProofs (disch:=omega) only[go_sem,undef,]
 refine hN _ ?_
 try clear hN N
 refine AW.cond rfl (fun h=>absurd h (by first|(simp;done)|(simp only[decide_eq_true_eq];omega))) (fun _=> ?_)
 refine AW.exit ?_
 simp only[thn,blk,if_true]
 refine hN1 _ ?_
 try clear hN1 N1
 refine AW.sr envOk (fun N hN=> ?_)
 simp-dsimp-implicitDefEqProofs (disch:=omega) only[go_sem,undef,]
 refine hN _ ?_
 try clear hN N
 refine AW.ret ?_
 simp-dsimp-implicitDefEqProofs (disch:=omega) only[go_sem,undef]
 exact⟨_,Le.refl _,rfl⟩
theorem laws_markInt64SSS_c:MarkC 45 cubes cubeslen 1152921504606846976 2000000000000000000:=by
  intro nx H r a ids k ho hnd hok h0 h1
  rcases ho.cubes_inv with ⟨rfl,rfl|rfl⟩|⟨id,rs,js,rfl,rfl,hrs,hH,hL⟩
  · exact(laws_markInt64SSS_nl k nx H).mono (fun _ _ _ ⟨h1,h2⟩=>by subst h1;subst h2;exact⟨k,rfl,by omega,by omega,fun _ _=>rfl⟩)
  · exact(laws_markInt64SSS_v0 k nx H).mono (fun _ _ _ ⟨h1,h2⟩=>by subst h1;subst h2;exact⟨k,rfl,by omega,by omega,fun _ _=>rfl⟩)
  · exact laws_markInt64SSS_h id rs a js k nx H hH hrs hL hnd hok h0 h1
theorem Ow.pair_inv {H:HP} {r X:AV} {k:IntKind} {e:Int} {ids:List Nat} (h:Ow H r (.t [X,.i k e]) ids):∃r1,r= .t [r1,.i k e]∧Ow H r1 X ids:=by
  generalize hX:AV.t [X,AV.i k e]=Y at h
  cases h with
  | leaf _ hf hn=>
    subst hX
    cases hf with|t _ hf=>cases hn with|t _ hn=>exact⟨X,rfl,.leaf _ (hf 0 _ rfl) (hn 0 _ rfl)⟩
  |nl=>cases hX
  |h id cs ts ids' h1 h2=>cases hX
  |q id cs ts ids' h1 h2=>cases hX
  |g cs ts ids' h2=>cases hX
  | t cs ts ids' h2=>
    cases hX
    cases h2 with|cons x0 _ xs _ i0 j0 g1 g2=>cases g2 with|cons x1 _ xs _ i1 j1 g3 g4=>
      cases g4
      cases g3 with|leaf _ _ _=>exact⟨x0,rfl,by simpa using g1⟩
def cut (nx:Nat) (H:HP):HP:=fun i=>if i<nx then H i else none
theorem cut_le (nx:Nat) (H:HP):Le (cut nx H) H:=by
  intro i c h
  unfold cut at h
  split at h
  · exact h
  · cases h
theorem one_ow {H:HP} {r:AV} {n:Nat} {ts:List AV} {ids:List Nat} (h:Ow H r (.v n ts) ids):one r=true:=h.slice.2.1
theorem laws_heldInt64S_ok (a:List Int) (k:Int) (ha:a.length≤1048576) (hk0:0≤k) (hk1:k≤1000000000000000000) (h:∀j,j<a.length→a.getD j 0=k+j):ACp Tryz.prog 46 [ints a,.i .i64 k] (.i .i64 (k+a.length)):=by
 refine ACp.intro' envOk Tryz.func46 rfl (by kernel_rfl) Tryz.ntmps46 Tryz.results46 (.i _ _) (fun nx=> ?_)
 refine AW.sr envOk (fun N hN=> ?_)
 simp-dsimp-implicitDefEqProofs (disch:=omega) only[go_sem,undef,ints,gd_i,w64]
 refine hN _ ?_
 try clear hN N
 refine AW.seq (fun N1 hN1=> ?_)
 refine AW.sr envOk (fun N hN=> ?_)
 simp-dsimp-implicitDefEqProofs (disch:=omega) only[go_sem,undef,ints,gd_i,w64]
 refine hN _ ?_
 try clear hN N
 refine AW.block ?_
 refine AW.loopN (α:=Nat) (fun x=>sl 21 [(0,ints a),(1,.i .i64 (k+(x:Int))),(5,.i .i64 x)]) (fun _=>noH) (fun x m=>x≤a.length) (fun x=>a.length-x) (0) ?_ ?_ (fun _ _ h=>h) ?_
 ·omega
 ·simp(disch:=omega) [wks,wkA,sl,w64,ints,rows,cubes,ints,gd_i,w64]<;>omega
 ·skip
  rintro i m hi
  simp-dsimp-implicitDefEqProofs (disch:=omega) only[go_sem,undef]
  refine AW.seq (fun N2 hN2=> ?_)
  refine AW.sr envOk (fun N hN=> ?_)
  simp-dsimp-implicitDefEqProofs (disch:=omega) only[go_sem,undef,ints,gd_i,w64]
  refine hN _ ?_
  try clear hN N
  refine AW.cond rfl (fun h1=> ?_) (fun h1=> ?_)
  ·try simp only[cn]at h1
   refine AW.skip ?_
   simp only[thn,blk]
   refine hN2 _ ?_
   try clear hN2 N2
   refine AW.seq (fun N3 hN3=> ?_)
   refine AW.block ?_
   refine AW.seq (fun N4 hN4=> ?_)
   refine AW.sr envOk (fun N hN=> ?_)
   simp-dsimp-implicitDefEqProofs (disch:=omega) only[go_sem,undef,ints,gd_i,w64]
   refine hN _ ?_
   try clear hN N
   refine AW.cond rfl (fun h2=> ?_) (fun h2=> ?_)
   ·try simp only[cn]at h2
    refine AW.sr envOk (fun N hN=> ?_)
    simp-dsimp-implicitDefEqProofs (disch:=omega) only[go_sem,undef,ints,gd_i,w64]
    refine hN _ ?_
    try clear hN N
    refine AW.ret ?_
    simp-dsimp-implicitDefEqProofs (disch:=omega) only[go_sem,undef]
    exact absurd (h i (by omega)) h2
   ·try simp only[cn]at h2
    refine AW.skip ?_
    simp only[thn,blk]
    refine hN4 _ ?_
    try clear hN4 N4
    refine AW.regionL envOk ?_
    simp-dsimp-implicitDefEqProofs (disch:=omega) only[go_sem,undef,ints,gd_i,w64]
    refine hN3 _ ?_
    try clear hN3 N3
    refine AW.regionL envOk ?_
    simp-dsimp-implicitDefEqProofs (disch:=omega) only[go_sem,undef,ints,gd_i,w64]
    refine⟨i+1,?_,fun _ _ h=>h,?_,?_⟩
    ·simp(disch:=omega) [wks,wkA,sl,w64,ints,rows,cubes,ints,gd_i,w64]<;>omega
    ·omega
    ·first|omega|(simp only;omega)
  ·try simp only[cn]at h1
   refine AW.exit ?_
   simp only[thn,blk,if_true]
   refine hN1 _ ?_
   try clear hN1 N1
   refine AW.sr envOk (fun N hN=> ?_)
   simp-dsimp-implicitDefEqProofs (disch:=omega) only[go_sem,undef,ints,gd_i,w64]
   refine hN _ ?_
   try clear hN N
   refine AW.ret ?_
   simp-dsimp-implicitDefEqProofs (disch:=omega) only[go_sem,undef]
   rw[show i=a.length by omega]
end Go.Proofs.YtnlfbimjcabgiaaGreat
