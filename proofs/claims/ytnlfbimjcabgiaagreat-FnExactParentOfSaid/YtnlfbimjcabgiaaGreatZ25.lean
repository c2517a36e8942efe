import Derived.Test.YtnlfbimjcabgiaaGreatZ11
import Derived.Test.YtnlfbimjcabgiaaGreatZ14
import Derived.Test.YtnlfbimjcabgiaaGreatZ17
import Derived.Test.YtnlfbimjcabgiaaGreatZ22
import Derived.Test.YtnlfbimjcabgiaaGreatZ24
set_option linter.unusedVariables false
set_option linter.unusedSimpArgs false
namespace Go.Proofs.YtnlfbimjcabgiaaGreat
open Nat (reduceAdd reduceSub reduceGT reduceEqDiff reduceMul)
def lab (l:Int):Int:=if 0<l then l else-l
def lid (l:Int):Nat:=(lab l-1).toNat
theorem wordP.get {n:Nat} {w:List Int} (h:wordP n w) {k:Nat} (hk:k<w.length):lid (w.getD k 0)<n∧lab (w.getD k 0)-1=lid (w.getD k 0)∧1≤lab (w.getD k 0)∧lab (w.getD k 0)≤n:=by
  have:=h.2 k hk
  unfold lid lab
  split<;>omega
def cmp (a b:Int):Int:=if a<b then-1 else if b<a then 1 else 0
open Nat (reduceAdd reduceSub reduceGT reduceEqDiff reduceMul)
def bvs (n:Nat) (f:Nat→Bool):List AV:=(List.range n).map fun k=> .b (f k)
def bset (f:Nat→Bool) (j:Nat) (x:Bool):Nat→Bool:=fun k=>if k=j then x else f k
theorem bvs_len {n:Nat} {f:Nat→Bool}:(bvs n f).length=n:=by simp[bvs]
theorem bvs_get {n:Nat} {f:Nat→Bool} {j:Nat} (h:j<n):(bvs n f).getD j .j= .b (f j):=by simp[bvs,h]
theorem bvs_set {n:Nat} {f:Nat→Bool} {j:Nat} {x:Bool} (h:j<n):splice (bvs n f) j [.b x]=bvs n (bset f j x):=by
  rw[splice_one _ _ _ (by rw[bvs_len];exact h)]
  apply List.ext_getElem?
  intro i
  rw[List.getElem?_set]
  by_cases hi:j=i
  · subst hi;simp[bvs,bset,h]
  · simp only[hi,if_false,bvs,List.getElem?_map]
    by_cases hn:i<n
    · simp[hn,bset,Ne.symm hi]
    · simp[hn]
attribute [go_sem] bvs_len bvs_get bvs_set
def bij (a:List Int):Prop:=(∀k,k<a.length→0≤a.getD k 0∧a.getD k 0≤(a.length:Int)-1)∧∀i j,i<j→j<a.length→a.getD i 0≠a.getD j 0
structure Sz (tb:List (List Int)) (n:Nat):Prop where
  n1:1≤n
  n128:n≤128
  G1:1≤tb.length
  G4:tb.length≤4
  len:∀g,g<tb.length→(tb.getD g []).length=n
  rng:∀g x,g<tb.length→x<n→0≤(tb.getD g []).getD x 0∧(tb.getD g []).getD x 0≤(n:Int)-1
def ninn (tb:List (List Int)) (x:Nat):Nat→Int→Int
  |0,v=>v
  |g+1,v=>if (tb.getD g []).getD x 0=ninn tb x g v then ninn tb x g v+1 else ninn tb x g v
def nout (tb:List (List Int)):Nat→Int
  |0=>1
  |x+1=>ninn tb x tb.length (nout tb x)
def numAt (tb:List (List Int)) (x:Nat):Prop:=(x:Int)<nout tb x∧∀g,g<tb.length→(tb.getD g []).getD x 0≤ninn tb x g (nout tb x)
def numP (tb:List (List Int)) (n:Nat):Prop:=∀x,x<n→numAt tb x
def minn (tb:List (List Int)) (x:Nat):Nat→Int→(Nat→Int)→Nat→Int
  |0,_,m=>m
  |g+1,v,m=>if (tb.getD g []).getD x 0=ninn tb x g v then fset (minn tb x g v m) ((tb.getD g []).getD x 0).toNat ((tb.getD g []).getD (minn tb x g v m x).toNat 0)else minn tb x g v m
def mout (tb:List (List Int)) (y:Int):Nat→Nat→Int
  |0=>fset (fun _=>0) 0 y
  |x+1=>minn tb x tb.length (nout tb x) (mout tb y x)
def movAt (tb:List (List Int)) (y:Int) (x g:Nat):Prop:=minn tb x (g+1) (nout tb x) (mout tb y x) ((tb.getD g []).getD x 0).toNat=(tb.getD g []).getD (minn tb x (g+1) (nout tb x) (mout tb y x) x).toNat 0
def movP (tb:List (List Int)) (n:Nat) (y:Int):Prop:=(∀x,x<n→∀g,g<tb.length→movAt tb y x g)∧bij (vec n (mout tb y n))
def cayP (tb:List (List Int)):Prop:=tb.length=0∨∃n,Sz tb n∧(∀g,g<tb.length→bij (tb.getD g []))∧numP tb n∧∀y:Nat,y<n→movP tb n y
def sized (tb:List (List Int)) (n:Nat):Prop:=∀g,g<tb.length→(tb.getD g []).length=n∧bij (tb.getD g [])
theorem cay_n {tb:List (List Int)} {n m:Nat} (h:Sz tb m) (hn:(tb.getD 0 []).length=n):m=n:=by
  have:=h.len 0 h.G1;omega
theorem cayP.out {tb:List (List Int)} {n:Nat} (h:cayP tb) (h0:1≤tb.length) (hn:(tb.getD 0 []).length=n):Sz tb n∧sized tb n∧numP tb n∧∀y:Nat,y<n→movP tb n y:=by
  rcases h with h|⟨m,h1,h2,h3,h4⟩
  · omega
  · have:=cay_n h1 hn
    subst this
    exact⟨h1,fun g hg=>⟨h1.len g hg,h2 g hg⟩,h3,h4⟩
open Nat (reduceAdd reduceSub reduceGT reduceEqDiff reduceMul)
def vrs (n v:Nat) (m:Nat→V):List AV:=(List.range v).map fun k=>vi n (m k)
theorem vrs_len {n v:Nat} {m:Nat→V}:(vrs n v m).length=v:=by simp[vrs]
theorem vrs_get {n v:Nat} {m:Nat→V} {k:Nat} (h:k<v):(vrs n v m).getD k .j=vi n (m k):=by simp[vrs,h]
attribute [go_sem] vrs_len vrs_get
section
variable {os:List Int} {pw:List (List Int)} {cj:List (List (List Int))} (h:presOk os pw cj) {xs:List (List Int)} (hx:exsP os xs) {tb:List (List Int)} (hl:tb.length≤xs.length)
include h hx hl
end
theorem FzH.cell {H:HP} {i j n k:Nat} {cs ds:List AV} (h1:H i=some cs) (hk:cs[k]? =some (.h j 0 n)) (h2:H j=some ds) (hn:ds.length=n) (hij:i≠j):FzH H (upd (upd H j none) i (some (cs.set k (.v n ds)))):=by
  intro q cs' hq
  by_cases e:q=i
  · subst e
    rw[upd_same]at hq;cases hq
    refine⟨_,h1,by simp,fun z x y hx hy=> ?_⟩
    rw[List.getElem?_set]at hy
    split at hy
    · rename_i hz
      subst hz
      rw[hk]at hx;cases hx
      split at hy
      · cases hy
        exact .h j 0 n ds ds h2 (by rw[upd_ne _ _ (Ne.symm hij),upd_same]) (by omega) hn (fun q x y h1 h2=>by rw[Nat.zero_add,h2]at h1;cases h1;exact .refl _)
      · cases hy
    · rw[hx]at hy;cases hy;exact .refl _
  · rw[upd_ne _ _ e]at hq
    by_cases e2:q=j
    · subst e2;rw[upd_same]at hq;cases hq
    · rw[upd_ne _ _ e2]at hq
      exact⟨cs',hq,rfl,fun q x y h1 h2=>by rw[h1]at h2;cases h2;exact .refl _⟩
def cvs (N n v:Nat) (m:Nat→V):List AV:=(List.range N).map fun k=>if k<v then vi n (m k)else .nl
theorem cvs_len {N n v:Nat} {m:Nat→V}:(cvs N n v m).length=N:=by simp[cvs]
end Go.Proofs.YtnlfbimjcabgiaaGreat
namespace Go.Proofs.YtnlfbimjcabgiaaGreat
open Nat (reduceAdd reduceSub reduceGT reduceEqDiff reduceMul)
def szP (os:List Int) (pw:List (List Int)) (cj:List (List (List Int))) (left:Int):Int:=if szS os left<0 then-1 else szR pw cj (szS os left)
theorem szP_mem {os:List Int} {pw:List (List Int)} {cj:List (List (List Int))} {l:Int} (hl:0≤l) (h2:l≤1048576) (h:0≤szP os pw cj l):prlen os pw cj∧rowslen pw∧cubeslen cj:=by
  have h1:=szS_le os l hl
  unfold szP at h
  split at h
  · omega
  · have h3:=szR_mem (l:=szS os l) (by omega) (by omega) h
    have h4:=szS_mem (a:=os) (l:=l) (by omega)
    exact⟨⟨by omega,ringlen.of h3.1 h3.2⟩,h3.1,h3.2⟩
theorem laws_szPresentation_ok (os:List Int) (pw:List (List Int)) (cj:List (List (List Int))) (left:Int) (hl0:0≤left) (hl2:left≤1048576) (h0:intsok os) (ha:rowsok pw) (hb:cubesok cj):ACp Tryz.prog 7 [prs os pw cj,.i .i64 left] (.i .i64 (szP os pw cj left)):=by
 have h1:=szS_le os left hl0
 have ho:=h0.1
 refine ACp.intro' envOk Tryz.func7 rfl (by kernel_rfl) Tryz.ntmps7 Tryz.results7 (.i _ _) (fun nx=> ?_)
 refine AW.sr envOk (fun N hN=> ?_)
 simp-dsimp-implicitDefEqProofs (disch:=omega) only[go_sem,undef,prs,ints,rows,cubes,w64]
 refine hN _ ?_
 try clear hN N
 refine AW.sr envOk (fun N hN=> ?_)
 simp-dsimp-implicitDefEqProofs (disch:=omega) only[go_sem,undef,prs,ints,rows,cubes,w64]
 refine AC.pure (.of (szS_ok os left hl0 hl2 h0.1)) ?_
 try simp-dsimp-implicitDefEqProofs (disch:=omega) only[go_sem,undef,prs,ints,rows,cubes,w64]
 refine hN _ ?_
 try clear hN N
 refine AW.seq (fun N1 hN1=> ?_)
 refine AW.sr envOk (fun N hN=> ?_)
 simp-dsimp-implicitDefEqProofs (disch:=omega) only[go_sem,undef,prs,ints,rows,cubes,w64]
 refine hN _ ?_
 try clear hN N
 refine AW.cond rfl (fun h1=> ?_) (fun h1=> ?_)
 ·try simp only[cn]at h1
  refine AW.sr envOk (fun N hN=> ?_)
  simp-dsimp-implicitDefEqProofs (disch:=omega) only[go_sem,undef,prs,ints,rows,cubes,w64]
  refine hN _ ?_
  try clear hN N
  refine AW.ret ?_
  simp-dsimp-implicitDefEqProofs (disch:=omega) only[go_sem,undef]
  rw[szP,if_pos (by omega)]
 ·try simp only[cn]at h1
  have h2:=szSS_le pw (szS os left) (by omega)
  refine AW.skip ?_
  simp only[thn,blk]
  refine hN1 _ ?_
  try clear hN1 N1
  refine AW.sr envOk (fun N hN=> ?_)
  simp-dsimp-implicitDefEqProofs (disch:=omega) only[go_sem,undef,prs,ints,rows,cubes,w64]
  refine AC.pure (.of (szSS_ok pw (szS os left) (by omega) (by omega) ha)) ?_
  try simp-dsimp-implicitDefEqProofs (disch:=omega) only[go_sem,undef,prs,ints,rows,cubes,w64]
  refine hN _ ?_
  try clear hN N
  refine AW.seq (fun N2 hN2=> ?_)
  refine AW.sr envOk (fun N hN=> ?_)
  simp-dsimp-implicitDefEqProofs (disch:=omega) only[go_sem,undef,prs,ints,rows,cubes,w64]
  refine hN _ ?_
  try clear hN N
  refine AW.cond rfl (fun h2=> ?_) (fun h2=> ?_)
  ·try simp only[cn]at h2
   refine AW.sr envOk (fun N hN=> ?_)
   simp-dsimp-implicitDefEqProofs (disch:=omega) only[go_sem,undef,prs,ints,rows,cubes,w64]
   refine hN _ ?_
   try clear hN N
   refine AW.ret ?_
   simp-dsimp-implicitDefEqProofs (disch:=omega) only[go_sem,undef]
   rw[szP,if_neg (by omega),szR,if_pos (by omega)]
  ·try simp only[cn]at h2
   have h3:=szSSS_le cj (szSS pw (szS os left)) (by omega)
   refine AW.skip ?_
   simp only[thn,blk]
   refine hN2 _ ?_
   try clear hN2 N2
   refine AW.sr envOk (fun N hN=> ?_)
   simp-dsimp-implicitDefEqProofs (disch:=omega) only[go_sem,undef,prs,ints,rows,cubes,w64]
   refine AC.pure (.of (laws_szInt64SSS_ok cj (szSS pw (szS os left)) (by omega) (by omega) hb)) ?_
   try simp-dsimp-implicitDefEqProofs (disch:=omega) only[go_sem,undef,prs,ints,rows,cubes,w64]
   refine hN _ ?_
   try clear hN N
   refine AW.seq (fun N3 hN3=> ?_)
   refine AW.sr envOk (fun N hN=> ?_)
   simp-dsimp-implicitDefEqProofs (disch:=omega) only[go_sem,undef,prs,ints,rows,cubes,w64]
   refine hN _ ?_
   try clear hN N
   refine AW.cond rfl (fun h3=> ?_) (fun h3=> ?_)
   ·try simp only[cn]at h3
    refine AW.sr envOk (fun N hN=> ?_)
    simp-dsimp-implicitDefEqProofs (disch:=omega) only[go_sem,undef,prs,ints,rows,cubes,w64]
    refine hN _ ?_
    try clear hN N
    refine AW.ret ?_
    simp-dsimp-implicitDefEqProofs (disch:=omega) only[go_sem,undef]
    rw[szP,if_neg (by omega),szR,if_neg (by omega)]
    refine it ?_
    omega
   ·try simp only[cn]at h3
    refine AW.skip ?_
    simp only[thn,blk]
    refine hN3 _ ?_
    try clear hN3 N3
    refine AW.sr envOk (fun N hN=> ?_)
    simp-dsimp-implicitDefEqProofs (disch:=omega) only[go_sem,undef,prs,ints,rows,cubes,w64]
    refine hN _ ?_
    try clear hN N
    refine AW.ret ?_
    simp-dsimp-implicitDefEqProofs (disch:=omega) only[go_sem,undef]
    rw[szP,if_neg (by omega),szR,if_neg (by omega)]
theorem laws_toPresentation_ok (os:List Int) (pw:List (List Int)) (cj:List (List (List Int))) (h0:os.length≤1048576) (g1:rowslen pw) (g2:cubeslen cj):ACo Tryz.prog 10 [prs os pw cj] (prs os pw cj):=by
  have h1:pw.length≤1099511627776:=by have:=g1.n;omega
  have h2:∀x∈pw,x.length≤1099511627776:=fun x hx=>by have:=g1.v x hx;omega
  have h3:cj.length≤1099511627776:=by have:=g2.n;omega
  have h4:∀x∈cj,x.length≤1099511627776∧∀y∈x,y.length≤1099511627776:=fun x hx=>⟨by have:=(g2.v x hx).n;omega,fun y hy=>by have:=(g2.v x hx).v y hy;omega⟩
  intro nx
  refine AC.intro' envOk Tryz.func10 rfl (by kernel_rfl) Tryz.ntmps10 Tryz.results10 ?_
  refine AW.sr envOk (fun N hN=> ?_)
  simp-dsimp-implicitDefEqProofs (disch:=omega) only[go_sem,undef,prs,ints,rows,cubes]
  refine hN _ ?_
  try clear hN N
  refine AW.sr envOk (fun N hN=> ?_)
  simp-dsimp-implicitDefEqProofs (disch:=omega) only[go_sem,undef,]
  refine hN _ ?_
  try clear hN N
  refine AW.sr envOk (fun N hN=> ?_)
  simp-dsimp-implicitDefEqProofs (disch:=omega) only[go_sem,undef,]
  refine AC.own (toS_ok os (by omega)) (.cons (.refl _) .nil) ?_
  intro m0 H0 r0 ids0 hm0 hH0 hown0
  obtain⟨b1,b2,b3⟩:=hown0.1.slice
  try simp-dsimp-implicitDefEqProofs (disch:=omega) only[go_sem,undef,b1,b2,b3,hH0]
  refine hN _ ?_
  try clear hN N
  refine AW.sr envOk (fun N hN=> ?_)
  simp-dsimp-implicitDefEqProofs (disch:=omega) only[go_sem,undef,hH0,b2]
  refine AC.own (toSS_ok pw h1 h2) (.cons (.refl _) .nil) ?_
  intro m1 H1 r1 ids1 hm1 hH1 hown1
  obtain⟨c1,c2,c3⟩:=hown1.1.slice
  try simp-dsimp-implicitDefEqProofs (disch:=omega) only[go_sem,undef,c1,c2,c3,hH1,hH0]
  refine hN _ ?_
  try clear hN N
  refine AW.sr envOk (fun N hN=> ?_)
  simp-dsimp-implicitDefEqProofs (disch:=omega) only[go_sem,undef,hH1,hH0]
  refine AC.own (toSSS_ok cj h3 h4) (.cons (.refl _) .nil) ?_
  intro m2 H2 r2 ids2 hm2 hH2 hown2
  obtain⟨d1,d2,d3⟩:=hown2.1.slice
  try simp-dsimp-implicitDefEqProofs (disch:=omega) only[go_sem,undef,d1,d2,d3,hH2,hH1,hH0]
  refine hN _ ?_
  try clear hN N
  refine AW.sr envOk (fun N hN=> ?_)
  simp-dsimp-implicitDefEqProofs (disch:=omega) only[go_sem,undef,b2,c2,d2,hH2,hH1,hH0]
  refine hN _ ?_
  try clear hN N
  refine AW.ret ?_
  simp-dsimp-implicitDefEqProofs (disch:=omega) only[go_sem,undef]
  refine⟨_,OwnL.g (.cons (b:=m0) (hown0.keep (fun i h1 h2=> ?_) (by omega) (Nat.le_refl _)) (.cons (b:=m1) (hown1.keep (fun i h1 h2=> ?_) (by omega) (Nat.le_refl _)) (.cons (b:=m2+2) (c:=m2+2) (hown2.keep (fun i h1 h2=> ?_) (by omega) (by omega)) .nil (by omega) (by omega)) (by omega) (by omega)) (by omega) (by omega))⟩
  · simp(disch:=omega) only[upd_ne,hH2,hH1]
  · simp(disch:=omega) only[upd_ne,hH2]
  · simp(disch:=omega) only[upd_ne]
theorem laws_eqPresentation_ok (os os2:List Int) (pw pw2:List (List Int)) (cj cj2:List (List (List Int))) (h1:os.length≤9223372036854775807) (h2:os2.length≤9223372036854775807) (h3:rowsok pw) (h4:rowsok pw2) (h5:cubesok cj) (h6:cubesok cj2):ACp Tryz.prog 13 [prs os pw cj,prs os2 pw2 cj2] (.b (decide (os=os2∧pw=pw2∧cj=cj2))):=by
 refine ACp.intro' envOk Tryz.func13 rfl (by kernel_rfl) Tryz.ntmps13 Tryz.results13 (.b _) (fun nx=> ?_)
 refine AW.sr envOk (fun N hN=> ?_)
 simp-dsimp-implicitDefEqProofs (disch:=omega) only[go_sem,undef,prs,w64]
 refine hN _ ?_
 try clear hN N
 refine AW.seq (fun N1 hN1=> ?_)
 refine AW.sr envOk (fun N hN=> ?_)
 simp-dsimp-implicitDefEqProofs (disch:=omega) only[go_sem,undef,prs,w64]
 refine AC.pure (.of (laws_eqInt64S_ok os os2 h1 h2)) ?_
 try simp-dsimp-implicitDefEqProofs (disch:=omega) only[go_sem,undef,prs,w64]
 refine hN _ ?_
 try clear hN N
 refine AW.cond rfl (fun h1=> ?_) (fun h1=> ?_)
 ·try simp only[cn]at h1
  refine AW.sr envOk (fun N hN=> ?_)
  simp-dsimp-implicitDefEqProofs (disch:=omega) only[go_sem,undef,prs,w64]
  refine hN _ ?_
  try clear hN N
  refine AW.ret ?_
  simp-dsimp-implicitDefEqProofs (disch:=omega) only[go_sem,undef]
  simp_all
 ·try simp only[cn]at h1
  refine AW.skip ?_
  simp only[thn,blk]
  refine hN1 _ ?_
  try clear hN1 N1
  refine AW.seq (fun N2 hN2=> ?_)
  refine AW.sr envOk (fun N hN=> ?_)
  simp-dsimp-implicitDefEqProofs (disch:=omega) only[go_sem,undef,prs,w64]
  refine AC.pure (.of (laws_eqInt64SS_ok pw pw2 h3 h4)) ?_
  try simp-dsimp-implicitDefEqProofs (disch:=omega) only[go_sem,undef,prs,w64]
  refine hN _ ?_
  try clear hN N
  refine AW.cond rfl (fun h2=> ?_) (fun h2=> ?_)
  ·try simp only[cn]at h2
   refine AW.sr envOk (fun N hN=> ?_)
   simp-dsimp-implicitDefEqProofs (disch:=omega) only[go_sem,undef,prs,w64]
   refine hN _ ?_
   try clear hN N
   refine AW.ret ?_
   simp-dsimp-implicitDefEqProofs (disch:=omega) only[go_sem,undef]
   simp_all
  ·try simp only[cn]at h2
   refine AW.skip ?_
   simp only[thn,blk]
   refine hN2 _ ?_
   try clear hN2 N2
   refine AW.seq (fun N3 hN3=> ?_)
   refine AW.sr envOk (fun N hN=> ?_)
   simp-dsimp-implicitDefEqProofs (disch:=omega) only[go_sem,undef,prs,w64]
   refine AC.pure (.of (laws_eqInt64SSS_ok cj cj2 h5 h6)) ?_
   try simp-dsimp-implicitDefEqProofs (disch:=omega) only[go_sem,undef,prs,w64]
   refine hN _ ?_
   try clear hN N
   refine AW.cond rfl (fun h3=> ?_) (fun h3=> ?_)
   ·try simp only[cn]at h3
    refine AW.sr envOk (fun N hN=> ?_)
    simp-dsimp-implicitDefEqProofs (disch:=omega) only[go_sem,undef,prs,w64]
    refine hN _ ?_
    try clear hN N
    refine AW.ret ?_
    simp-dsimp-implicitDefEqProofs (disch:=omega) only[go_sem,undef]
    simp_all
   ·try simp only[cn]at h3
    refine AW.skip ?_
    simp only[thn,blk]
    refine hN3 _ ?_
    try clear hN3 N3
    refine AW.sr envOk (fun N hN=> ?_)
    simp-dsimp-implicitDefEqProofs (disch:=omega) only[go_sem,undef,prs,w64]
    refine hN _ ?_
    try clear hN N
    refine AW.ret ?_
    simp-dsimp-implicitDefEqProofs (disch:=omega) only[go_sem,undef]
    simp_all
end Go.Proofs.YtnlfbimjcabgiaaGreat
namespace Go.Proofs.YtnlfbimjcabgiaaGreat
open Nat (reduceAdd reduceSub reduceGT reduceEqDiff reduceMul)
attribute [go_sem] cvs_len
end Go.Proofs.YtnlfbimjcabgiaaGreat
namespace Go.Proofs.YtnlfbimjcabgiaaGreat
open Nat (reduceAdd reduceSub reduceGT reduceEqDiff reduceMul)
theorem spec_l10Order_ok (os:List Int) (pw:List (List Int)) (cj:List (List (List Int))) (h:presOk os pw cj):ACp Tryz.prog 56 [prs os pw cj] (.i .i64 (prd os os.length)):=by
 have hn6:=h.1.1
 have hpr:=h.2.1
 have hN:=h.2.2.1
 refine ACp.intro' envOk Tryz.func56 rfl (by kernel_rfl) Tryz.ntmps56 Tryz.results56 (.i _ _) (fun nx=> ?_)
 refine AW.sr envOk (fun N hN=> ?_)
 simp-dsimp-implicitDefEqProofs (disch:=omega) only[go_sem,undef,prs,prsP,ints,gd_i,w64]
 refine hN _ ?_
 try clear hN N
 refine AW.freezeQ 1 nx _ rfl (upd_same _ _ _) ?_
 simp-dsimp-implicitDefEqProofs (disch:=omega) only[go_sem,undef]
 refine AW.sr envOk (fun N hN=> ?_)
 simp-dsimp-implicitDefEqProofs (disch:=omega) only[go_sem,undef,prs,prsP,ints,gd_i,w64]
 refine hN _ ?_
 try clear hN N
 refine AW.seq (fun N1 hN1=> ?_)
 refine AW.sr envOk (fun N hN=> ?_)
 simp-dsimp-implicitDefEqProofs (disch:=omega) only[go_sem,undef,prs,prsP,ints,gd_i,w64]
 refine hN _ ?_
 try clear hN N
 refine AW.block ?_
 refine AW.loopN (α:=Nat) (fun x=>sl 20 [(1,prsP os pw cj),(3,.i .i64 (prd os x)),(4,.i .i64 x)]) (fun _=>noH) (fun x m=>x≤os.length) (fun x=>os.length-x) (0) ?_ ?_ (by intro d cs hd;cases hd) ?_
 ·omega
 ·simp(disch:=omega) [wks,wkA,sl,prsP,ints,rows,cubes,prd]
 ·skip
  rintro k m hk
  simp-dsimp-implicitDefEqProofs (disch:=omega) only[go_sem,undef]
  refine AW.seq (fun N2 hN2=> ?_)
  refine AW.sr envOk (fun N hN=> ?_)
  simp-dsimp-implicitDefEqProofs (disch:=omega) only[go_sem,undef,prs,prsP,ints,gd_i,w64]
  refine hN _ ?_
  try clear hN N
  refine AW.cond rfl (fun h1=> ?_) (fun h1=> ?_)
  ·try simp only[cn]at h1
   have h2:=prd_pos hpr (k+1) (by omega)
   have h3:=prd_mono hpr (k:=k+1) (os.length-(k+1)) (by omega)
   have h4:prd os (k+1)=prd os k*os.getD k 0:=rfl
   have h6:prd os (k+1+(os.length-(k+1)))=prd os os.length:=by congr 1;omega
   refine AW.skip ?_
   simp only[thn,blk]
   refine hN2 _ ?_
   try clear hN2 N2
   refine AW.seq (fun N3 hN3=> ?_)
   refine AW.block ?_
   refine AW.regionL envOk ?_
   simp-dsimp-implicitDefEqProofs (disch:=omega) only[go_sem,undef,prs,prsP,ints,gd_i,w64]
   refine hN3 _ ?_
   try clear hN3 N3
   refine AW.regionL envOk ?_
   simp-dsimp-implicitDefEqProofs (disch:=omega) only[go_sem,undef,prs,prsP,ints,gd_i,w64]
   refine⟨k+1,?_,fun _ _ h=>h,?_,?_⟩
   ·simp(disch:=omega) [wks,wkA,sl,prsP,ints,rows,cubes,prd]
   ·omega
   ·first|omega|(simp only;omega)
  ·try simp only[cn]at h1
   refine AW.exit ?_
   simp only[thn,blk,if_true]
   refine hN1 _ ?_
   try clear hN1 N1
   refine AW.sr envOk (fun N hN=> ?_)
   simp-dsimp-implicitDefEqProofs (disch:=omega) only[go_sem,undef,prs,prsP,ints,gd_i,w64]
   refine hN _ ?_
   try clear hN N
   refine AW.ret ?_
   simp-dsimp-implicitDefEqProofs (disch:=omega) only[go_sem,undef]
   rw[show k=os.length by omega]
theorem impl_orderOf_ok (os:List Int) (pw:List (List Int)) (cj:List (List (List Int))) (h:presOk os pw cj):ACp Tryz.prog 61 [prsP os pw cj] (.i .i64 (prd os os.length)):=by
 have hn6:=h.1.1
 have hpr:=h.2.1
 have hN:=h.2.2.1
 refine ACp.intro' envOk Tryz.func61 rfl (by kernel_rfl) Tryz.ntmps61 Tryz.results61 (.i _ _) (fun nx=> ?_)
 refine AW.sr envOk (fun N hN=> ?_)
 simp-dsimp-implicitDefEqProofs (disch:=omega) only[go_sem,undef,prs,prsP,ints,gd_i,w64]
 refine hN _ ?_
 try clear hN N
 refine AW.sr envOk (fun N hN=> ?_)
 simp-dsimp-implicitDefEqProofs (disch:=omega) only[go_sem,undef,prs,prsP,ints,gd_i,w64]
 refine hN _ ?_
 try clear hN N
 refine AW.seq (fun N1 hN1=> ?_)
 refine AW.sr envOk (fun N hN=> ?_)
 simp-dsimp-implicitDefEqProofs (disch:=omega) only[go_sem,undef,prs,prsP,ints,gd_i,w64]
 refine hN _ ?_
 try clear hN N
 refine AW.block ?_
 refine AW.loopN (α:=Nat) (fun x=>sl 20 [(3,.i .i64 (prd os x)),(9,ints os),(10,.i .i64 os.length),(11,.i .i64 x)]) (fun _=>noH) (fun x m=>x≤os.length) (fun x=>os.length-x) (0) ?_ ?_ (fun _ _ h=>h) ?_
 ·omega
 ·simp(disch:=omega) [wks,wkA,sl,prsP,ints,rows,cubes,prd]
 ·skip
  rintro k m hk
  simp-dsimp-implicitDefEqProofs (disch:=omega) only[go_sem,undef]
  refine AW.sr envOk (fun N hN=> ?_)
  simp-dsimp-implicitDefEqProofs (disch:=omega) only[go_sem,undef,prs,prsP,ints,gd_i,w64]
  refine hN _ ?_
  try clear hN N
  refine AW.seq (fun N2 hN2=> ?_)
  refine AW.cond rfl (fun h1=> ?_) (fun h1=> ?_)
  ·try simp only[cn]at h1
   have h2:=prd_pos hpr (k+1) (by omega)
   have h3:=prd_mono hpr (k:=k+1) (os.length-(k+1)) (by omega)
   have h4:prd os (k+1)=prd os k*os.getD k 0:=rfl
   have h6:prd os (k+1+(os.length-(k+1)))=prd os os.length:=by congr 1;omega
   refine AW.skip ?_
   simp only[thn,blk]
   refine hN2 _ ?_
   try clear hN2 N2
   refine AW.seq (fun N3 hN3=> ?_)
   refine AW.block ?_
   refine AW.sr envOk (fun N hN=> ?_)
   simp-dsimp-implicitDefEqProofs (disch:=omega) only[go_sem,undef,prs,prsP,ints,gd_i,w64]
   refine hN _ ?_
   try clear hN N
   refine AW.regionL envOk ?_
   simp-dsimp-implicitDefEqProofs (disch:=omega) only[go_sem,undef,prs,prsP,ints,gd_i,w64]
   refine hN3 _ ?_
   try clear hN3 N3
   refine AW.regionL envOk ?_
   simp-dsimp-implicitDefEqProofs (disch:=omega) only[go_sem,undef,prs,prsP,ints,gd_i,w64]
   refine⟨k+1,?_,fun _ _ h=>h,?_,?_⟩
   ·simp(disch:=omega) [wks,wkA,sl,prsP,ints,rows,cubes,prd]
   ·omega
   ·first|omega|(simp only;omega)
  ·try simp only[cn]at h1
   refine AW.exit ?_
   simp only[thn,blk,if_true]
   refine hN1 _ ?_
   try clear hN1 N1
   refine AW.sr envOk (fun N hN=> ?_)
   simp-dsimp-implicitDefEqProofs (disch:=omega) only[go_sem,undef,prs,prsP,ints,gd_i,w64]
   refine hN _ ?_
   try clear hN N
   refine AW.ret ?_
   simp-dsimp-implicitDefEqProofs (disch:=omega) only[go_sem,undef]
   rw[show k=os.length by omega]
def pcs (c:Nat) (p:Nat→Bool) (f:Nat→List Int):List AV:=(List.range c).map fun i=>if p i=true then ints (f i)else .nl
theorem pcs_len {c:Nat} {p:Nat→Bool} {f:Nat→List Int}:(pcs c p f).length=c:=by simp[pcs]
attribute [go_sem] pcs_len
theorem cayP.len {tb:List (List Int)} (h:cayP tb):tb.length≤4:=by
  by_cases e:tb.length=0
  · omega
  · exact(h.out (n:=(tb.getD 0 []).length) (by omega) rfl).1.G4
end Go.Proofs.YtnlfbimjcabgiaaGreat
