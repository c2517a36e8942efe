import Derived.Test.YtghmeeifjeafmaaGreatZ07
set_option linter.unusedVariables false
set_option linter.unusedSimpArgs false
namespace Go.Proofs.YtghmeeifjeafmaaGreat
def dC(n:Nat)(f:Nat→Bool):List AV:=(List.range n).map fun k=> .b (f k)
def pF(f:Nat→Bool)(j:Nat)(x:Bool):Nat→Bool:=fun k=>if k=j then x else f k
theorem iN{n:Nat}{f:Nat→Bool}:(dC n f).length=n:=by simp[dC]
theorem xG{n:Nat}{f:Nat→Bool}{j:Nat}(h:j<n):(dC n f).getD j .j= .b (f j):=by simp[dC,h]
theorem iO{n:Nat}{f g:Nat→Bool}(h:∀k,k<n→f k=g k):dC n f=dC n g:=by
  apply List.map_congr_left;intro k hk;rw[h k (List.mem_range.1 hk)]
theorem xH{n:Nat}{f:Nat→Bool}{j:Nat}{x:Bool}(h:j<n):B0 (dC n f) j [.b x]=dC n (pF f j x):=by
  rw[BL _ _ _ (by rw[iN];exact h)];apply List.ext_getElem?;intro i;rw[List.getElem?_set];by_cases hi:j=i
  · subst hi;simp[dC,pF,h]
  simp only[hi,if_false,dC,List.getElem?_map];by_cases hn:i<n
  · simp[hn,pF,Ne.symm hi]
  simp[hn]
theorem pG{n:Nat}:List.replicate n (.b false)=dC n (fun _=>false):=by
  apply List.ext_getElem?;intro i;by_cases h:i<n<;>simp[dC,h]
attribute [go_sem] iN xG xH
def xI(a:List Int):Prop:=(∀k,k<a.length→0≤a.getD k 0∧a.getD k 0≤(a.length:Int)-1)∧∀i j,i<j→j<a.length→a.getD i 0≠a.getD j 0
noncomputable def UK(a:List Int)(k:Nat):Nat→Bool:=fun v=>tf (∃j,j<k∧(a.getD j 0).toNat=v)
theorem lI{a:List Int}:dC a.length (UK a 0)=List.replicate a.length (.b false):=by
  rw[pG];exact iO (fun v hv=>CE (by rintro⟨j,h,_⟩;omega))
theorem lJ{a:List Int}{k:Nat}:dC a.length (pF (UK a k) (a.getD k 0).toNat true)=dC a.length (UK a (k+1)):=by
  refine iO (fun v hv=>?_);unfold pF UK;split
  · rename_i h;exact(EN ⟨k,by omega,h.symm⟩).symm
  rename_i h;refine RX ⟨fun ⟨j,h1,h2⟩=>⟨j,by omega,h2⟩,fun ⟨j,h1,h2⟩=>⟨j,?_,h2⟩⟩;by_cases e:j=k
  · subst e;exact absurd h2.symm h
  omega
theorem pH{a:List Int}{k:Nat}(hJ:∀i j,i<j→j<k→a.getD i 0≠a.getD j 0)(hI:∀j,j<k→0≤a.getD j 0)(h3:0≤a.getD k 0)(h4:¬UK a k (a.getD k 0).toNat=true):∀i j,i<j→j<k+1→a.getD i 0≠a.getD j 0:=by
  intro i j JI hj he;by_cases e:j=k
  · subst e;exact h4 (EN ⟨i,JI,by rw[he]⟩)
  exact hJ i j JI (by omega) he
theorem Hv{a:List Int}{k:Nat}(hk:k<a.length)(h4:UK a k (a.getD k 0).toNat=true):¬xI a:=by
  obtain⟨j,h1,h2⟩:=oP.1 h4;intro ⟨hb,hd⟩;have q1:=hb j (by omega);have q2:=hb k hk;exact hd j k h1 hk (by omega)
theorem HO(a:List Int)(ha:a.length≤1048576):BG Tryz.prog 98 [ints a] (.b (tf (xI a))):=by
 refine BG.AM A9 Tryz.func98 rfl (by kernel_rfl) Tryz.ntmps98 Tryz.results98 (.b _) (fun nx cX=>?_)
 refine sQ fun N hN=>?_;simp-dsimp-implicitDefEqProofs(disch:=omega)only[go_sem,ints,A6];apply hN;refine sQ fun N hN=>?_;simp-dsimp-implicitDefEqProofs(disch:=omega)only[go_sem,ints,A6];apply hN;refine AW.seq fun N1 BC=>?_;refine sQ fun N hN=>?_;simp-dsimp-implicitDefEqProofs(disch:=omega)only[go_sem,ints,A6];apply hN;apply AW.block;refine AW.AF (α:=Nat) (fun x=>sl 31 [(0,ints a),(3,.h (nx+1+2) 0 a.length),(9,ints a),(10,.i .i64 a.length),(11,.i .i64 x)]) (fun x=>AU BN (nx+1+2) (some (dC a.length (UK a x)))) (fun x m=>x≤a.length∧(∀k,k<x→0≤a.getD k 0∧a.getD k 0≤(a.length:Int)-1)∧(∀i j,i<j→j<x→a.getD i 0≠a.getD j 0)) (fun x=>a.length-x) (0) ?_ ?_ (by rw[lI];exact Le.refl _) ?_
 ·exact⟨by omega,by intro j hj;omega,by intro i j h h2;omega⟩
 ·simp(disch:=omega) [AO,AQ,sl,AJ,ints,rows,A4,ints,A6,AJ]<;>omega
 skip
 rintro k m ⟨hk,hI,hJ⟩
 simp-dsimp-implicitDefEqProofs(disch:=omega)only[go_sem];refine sQ fun N hN=>?_;simp-dsimp-implicitDefEqProofs(disch:=omega)only[go_sem,ints,A6];apply hN;refine AW.seq fun N2 BM=>?_;refine AW.cond rfl ?_ ?_<;>intro h1
 ·try simp only[cn]at h1
  apply AW.skip;apply BM;refine AW.seq fun N3 BQ=>?_;apply AW.block;refine sQ fun N hN=>?_;simp-dsimp-implicitDefEqProofs(disch:=omega)only[go_sem,ints,A6];apply hN;refine AW.seq fun N4 CG=>?_;refine sQ fun N hN=>?_;simp-dsimp-implicitDefEqProofs(disch:=omega)only[go_sem,ints,A6];refine AC.pure (.of (M1 _ _ _)) ?_;try simp-dsimp-implicitDefEqProofs(disch:=omega)only[go_sem,ints,A6]
  refine C9.mk' (fun h2=>?_) (fun h2=>?_)
  ·try simp only[cn]at h2
   try simp-dsimp-implicitDefEqProofs(disch:=omega)only[go_sem,ints,A6]
   apply hN;refine AW.cond rfl ?_ ?_<;>intro h3
   ·(try simp only[cn]at h3);refine sQ fun N hN=>?_;simp-dsimp-implicitDefEqProofs(disch:=omega)only[go_sem,ints,A6];apply hN;apply AW.ret;simp-dsimp-implicitDefEqProofs(disch:=omega)only[go_sem];exact bt (CE (Hv (by omega) h3)).symm
   try simp only[cn]at h3
   apply AW.skip;apply CG;apply rQ;simp-dsimp-implicitDefEqProofs(disch:=omega)only[go_sem,ints,A6];apply BQ;apply rQ;simp-dsimp-implicitDefEqProofs(disch:=omega)only[go_sem,ints,A6];refine⟨k+1,?_,by rw[lJ];exact Le.refl _,?_,?_⟩
   ·simp(disch:=omega) [AO,AQ,sl,AJ,ints,rows,A4,ints,A6,AJ]<;>omega
   ·refine⟨by omega,fun j hj=>?_,pH hJ (fun j hj=>(hI j hj).1) h2.1 (by rw[h3];simp)⟩;by_cases e:j=k
    ·subst e;exact h2
    exact hI j (by omega)
   first|omega|(simp only;omega)
  try simp only[cn]at h2
  try simp-dsimp-implicitDefEqProofs(disch:=omega)only[go_sem,ints,A6]
  apply hN;refine AW.DX rfl ?_;refine sQ fun N hN=>?_;simp-dsimp-implicitDefEqProofs(disch:=omega)only[go_sem,ints,A6];apply hN;apply AW.ret;simp-dsimp-implicitDefEqProofs(disch:=omega)only[go_sem];exact bt (CE (fun h=>h2 (h.1 k (by omega)))).symm
 try simp only[cn]at h1
 apply AW.exit;apply BC;refine sQ fun N hN=>?_;simp-dsimp-implicitDefEqProofs(disch:=omega)only[go_sem,ints,A6];apply hN;apply AW.ret;simp-dsimp-implicitDefEqProofs(disch:=omega)only[go_sem];have GA:k=a.length:=by omega
 subst GA
 exact bt (EN ⟨hI,hJ⟩).symm
theorem Vw.ivq{H:HP}{id n:Nat}{f:Nat→Int}(h:H id=some (DM n f)):Vw H (.h id 0 n) (ints (vec n f)):=by
  unfold Go.Proofs.YtghmeeifjeafmaaGreat.ints;rw[C1,HT];exact .h id 0 n _ _ h (by rw[E0];omega) E0 (fun k x y hx hy=>by rw[Nat.zero_add,hy]at hx;cases hx;exact .refl _)
structure Sz(tb:List (List Int))(n:Nat):Prop where
  n1:1≤n
  A1H:n≤128
  G1:1≤tb.length
  G4:tb.length≤4
  len:∀g,g<tb.length→(tb.getD g []).length=n
  rng:∀g x,g<tb.length→x<n→0≤(tb.getD g []).getD x 0∧(tb.getD g []).getD x 0≤(n:Int)-1
def E2(tb:List (List Int))(x:Nat):Nat→Int→Int
  |0,v=>v
  |g+1,v=>if (tb.getD g []).getD x 0=E2 tb x g v then E2 tb x g v+1 else E2 tb x g v
def CF(tb:List (List Int)):Nat→Int
  |0=>1
  |x+1=>E2 tb x tb.length (CF tb x)
theorem MZ{tb:List (List Int)}{n x:Nat}(h:Sz tb n)(hx:x<n){v:Int}(h1:v≤n):∀g,g≤tb.length→v≤E2 tb x g v∧E2 tb x g v≤n:=by
  intro g;induction g with
  |zero=>intro _;exact⟨Int.le_refl _,h1⟩
  | succ g ih=>
    intro hg;have:=ih (by omega);have hr:=h.rng g x (by omega) hx;rw[E2];split<;>omega
theorem PT{tb:List (List Int)}{n:Nat}(h:Sz tb n):∀x,x≤n→1≤CF tb x∧CF tb x≤n:=by
  intro x;induction x with
  |zero=>intro _;have:=h.n1;simp only[CF];omega
  | succ x ih=>
    intro hx;have h1:=ih (by omega);have h2:=MZ h (x:=x) (by omega) h1.2 tb.length (Nat.le_refl _);rw[CF];omega
def Bm(tb:List (List Int))(x:Nat):Prop:=(x:Int)<CF tb x∧∀g,g<tb.length→(tb.getD g []).getD x 0≤E2 tb x g (CF tb x)
def eK(tb:List (List Int))(n:Nat):Prop:=∀x,x<n→Bm tb x
theorem xJ{tb:List (List Int)}{n:Nat}(h:Sz tb n)(hn:eK tb n):CF tb n=n:=by
  have h1:=h.n1;obtain⟨m,rfl⟩:∃m,n=m+1:=⟨n-1,by omega⟩;have h2:=(hn m (by omega)).1;have h3:=PT h m (by omega);have h4:=MZ h (x:=m) (by omega) h3.2 tb.length (Nat.le_refl _);rw[CF];omega
def LD(tb:List (List Int))(x:Nat):Nat→Int→(Nat→Int)→Nat→Int
  |0,_,m=>m
  |g+1,v,m=>if (tb.getD g []).getD x 0=E2 tb x g v then AX (LD tb x g v m) ((tb.getD g []).getD x 0).toNat ((tb.getD g []).getD (LD tb x g v m x).toNat 0)else LD tb x g v m
def HV(tb:List (List Int))(y:Int):Nat→Nat→Int
  |0=>AX (fun _=>0) 0 y
  |x+1=>LD tb x tb.length (CF tb x) (HV tb y x)
def mrg(n:Nat)(v:Int)(m:Nat→Int):Prop:=∀z:Nat,(z:Int)<v→0≤m z∧m z≤(n:Int)-1
theorem YT{tb:List (List Int)}{n x:Nat}(h:Sz tb n)(hx:x<n){v:Int}(hv:(x:Int)<v)(h1:v≤n){m:Nat→Int}(hm:mrg n v m):∀g,g≤tb.length→mrg n (E2 tb x g v) (LD tb x g v m):=by
  intro g;induction g with
  |zero=>intro _;exact hm
  | succ g ih=>
    intro hg;have h2:=ih (by omega);have h3:=MZ h hx h1 g (by omega);rw[E2,LD];split
    · rename_i he;intro z hz;unfold AX;split
      · have h4:=h2 x (by omega);have:=h.rng g (LD tb x g v m x).toNat (by omega) (by omega);omega
      exact h2 z (by omega)
    exact h2
theorem iP{tb:List (List Int)}{n:Nat}(h:Sz tb n){y:Int}(hy:0≤y∧y<n)(hn:eK tb n):∀x,x≤n→mrg n (CF tb x) (HV tb y x):=by
  intro x;induction x with
  | zero=>
    intro _ z hz;simp only[CF]at hz;have:z=0:=by omega
    subst this;simp only[HV,AX,if_true];omega
  | succ x ih=>
    intro hx;exact YT h (by omega) (hn x (by omega)).1 (PT h x (by omega)).2 (ih (by omega)) tb.length (Nat.le_refl _)
def S0(tb:List (List Int))(y:Int)(x g:Nat):Prop:=LD tb x (g+1) (CF tb x) (HV tb y x) ((tb.getD g []).getD x 0).toNat=(tb.getD g []).getD (LD tb x (g+1) (CF tb x) (HV tb y x) x).toNat 0
def pI(tb:List (List Int))(n:Nat)(y:Int):Prop:=(∀x,x<n→∀g,g<tb.length→S0 tb y x g)∧xI (vec n (HV tb y n))
def UL(v:Int)(m:Nat→Int):Nat→Int:=fun z=>if (z:Int)<v then m z else-1
theorem lK{tb:List (List Int)}{y:Int}{n z:Nat}(hz:z<n):UL (CF tb 0) (HV tb y 0) z=AX (fun j=>if j<n then-1 else 0) 0 y z:=by
  unfold UL CF HV AX;by_cases e:z=0
  · subst e;simp
  simp only[e,if_false,hz,if_true];rw[if_neg (by omega)]
theorem pJ{x:Nat}:AX (fun j=>if j<x then (-1:Int)else 0) x (-1)=fun j=>if j<x+1 then-1 else 0:=wM (g:=fun _=> -1) (f:=fun _=>0) rfl
theorem PU(tb:List (List Int))(n:Nat)(h:Sz tb n)(hn:eK tb n)(y:Int)(hy:0≤y∧y<n):BG Tryz.prog 99 [rows tb,.i .i64 y] (.b (tf (pI tb n y))):=by
 obtain⟨UM,TJ,F0,hG,hlen,pK⟩:=id h
 have CZ:=hlen 0 (by omega)
 refine BG.AM A9 Tryz.func99 rfl (by kernel_rfl) Tryz.ntmps99 Tryz.results99 (.b _) (fun nx cX=>?_)
 refine sQ fun N hN=>?_;simp-dsimp-implicitDefEqProofs(disch:=omega)only[go_sem,ints,rows,A6,A7,CZ];apply hN;refine sQ fun N hN=>?_;simp-dsimp-implicitDefEqProofs(disch:=omega)only[go_sem,ints,rows,A6,A7,CZ];apply hN;refine AW.seq fun N1 BC=>?_;refine sQ fun N hN=>?_;simp-dsimp-implicitDefEqProofs(disch:=omega)only[go_sem,ints,rows,A6,A7,CZ];apply hN;apply AW.block;refine AW.AF (α:=Nat) (fun x=>sl 78 [(0,rows tb),(1,.i .i64 y),(5,.h (nx+1+4) 0 n),(16,.i .i64 n),(17,.i .i64 x)]) (fun x=>AU BN (nx+1+4) (some (DM n (fun j=>if j<x then-1 else 0)))) (fun x m=>x≤n) (fun x=>n-x) (0) ?_ ?_ (by rw[CA];simp) ?_
 ·omega
 ·simp(disch:=omega) [AO,AQ,sl,AJ,ints,rows,A4,ints,rows,A6,A7,AJ,CZ]<;>omega
 skip
 rintro x m hx
 simp-dsimp-implicitDefEqProofs(disch:=omega)only[go_sem];refine sQ fun N hN=>?_;simp-dsimp-implicitDefEqProofs(disch:=omega)only[go_sem,ints,rows,A6,A7,CZ];apply hN;refine AW.seq fun N2 BM=>?_;refine AW.cond rfl ?_ ?_<;>intro h1
 ·try simp only[cn]at h1
  apply AW.skip;apply BM;refine AW.seq fun N3 BQ=>?_;apply AW.block;refine sQ fun N hN=>?_;simp-dsimp-implicitDefEqProofs(disch:=omega)only[go_sem,ints,rows,A6,A7,CZ];apply hN;apply rQ;simp-dsimp-implicitDefEqProofs(disch:=omega)only[go_sem,ints,rows,A6,A7,CZ];apply BQ;apply rQ;simp-dsimp-implicitDefEqProofs(disch:=omega)only[go_sem,ints,rows,A6,A7,CZ];refine⟨x+1,?_,by rw[pJ];exact Le.refl _,?_,?_⟩
  ·simp(disch:=omega) [AO,AQ,sl,AJ,ints,rows,A4,ints,rows,A6,A7,AJ,CZ]<;>omega
  ·omega
  first|omega|(simp only;omega)
 try simp only[cn]at h1
 apply AW.exit;apply BC;refine sQ fun N hN=>?_;simp-dsimp-implicitDefEqProofs(disch:=omega)only[go_sem,ints,rows,A6,A7,CZ];apply hN;refine AW.seq fun N4 CG=>?_;refine sQ fun N hN=>?_;simp-dsimp-implicitDefEqProofs(disch:=omega)only[go_sem,ints,rows,A6,A7,CZ];apply hN;apply AW.block;have KA:x=n:=by omega
 rw[KA]
 refine AW.AF (α:=Nat) (fun x=>sl 78 [(0,rows tb),(5,.h (nx+1+4) 0 n),(28,.i .i64 n),(29,.i .i64 x)]) (fun x=>AU BN (nx+1+4) (some (DM n (UL (CF tb x) (HV tb y x))))) (fun x m=>x≤n∧(∀k,k<x→∀g,g<tb.length→S0 tb y k g)) (fun x=>n-x) (0) ?_ ?_ (by rw[FJ (f:=UL (CF tb 0) (HV tb y 0)) (g:=AX (fun j=>if j<n then-1 else 0) 0 y) (fun z hz=>lK hz)];exact Le.refl _) ?_
 ·exact⟨by omega,by intro j hj;omega⟩
 ·simp(disch:=omega) [AO,AQ,sl,AJ,ints,rows,A4,ints,rows,A6,A7,AJ,CZ]<;>omega
 skip
 rintro k m2 ⟨hk,hI⟩
 simp-dsimp-implicitDefEqProofs(disch:=omega)only[go_sem];have hb:=PT h k hk
 refine sQ fun N hN=>?_;simp-dsimp-implicitDefEqProofs(disch:=omega)only[go_sem,ints,rows,A6,A7,CZ];apply hN;refine AW.seq fun N5 DW=>?_;refine AW.cond rfl ?_ ?_<;>intro h2
 ·try simp only[cn]at h2
  apply AW.skip;apply DW;refine AW.seq fun N6 HC=>?_;apply AW.block;refine sQ fun N hN=>?_;simp-dsimp-implicitDefEqProofs(disch:=omega)only[go_sem,ints,rows,A6,A7,CZ];apply hN;refine sQ fun N hN=>?_;simp-dsimp-implicitDefEqProofs(disch:=omega)only[go_sem,ints,rows,A6,A7,CZ];apply hN;apply AW.block;refine AW.AF (α:=Nat) (fun x=>sl 78 [(0,rows tb),(5,.h (nx+1+4) 0 n),(7,.i .i64 k),(28,.i .i64 n),(29,.i .i64 k),(32,rows tb),(33,.i .i64 tb.length),(34,.i .i64 x)]) (fun x=>AU BN (nx+1+4) (some (DM n (UL (E2 tb k x (CF tb k)) (LD tb k x (CF tb k) (HV tb y k)))))) (fun x m=>x≤tb.length∧∀g,g<x→S0 tb y k g) (fun x=>tb.length-x) (0) ?_ ?_ (by rw[LD,E2];exact Le.refl _) ?_
  ·exact⟨by omega,by intro j hj;omega⟩
  ·simp(disch:=omega) [AO,AQ,sl,AJ,ints,rows,A4,ints,rows,A6,A7,AJ,CZ]<;>omega
  skip
  rintro g m3 ⟨hg,hJ⟩;simp-dsimp-implicitDefEqProofs(disch:=omega)only[go_sem];have LF:=MZ h (x:=k) (by omega) hb.2 g hg;have L4:=hn k (by omega);have oI:=L4.1;have YU:=YT h (x:=k) (by omega) L4.1 hb.2 (iP h hy hn k hk) g hg;obtain⟨M,xK⟩:∃M,LD tb k g (CF tb k) (HV tb y k)=M:=⟨_,rfl⟩;obtain⟨V,hV⟩:∃V,E2 tb k g (CF tb k)=V:=⟨_,rfl⟩;rw[xK,hV]at YU;rw[hV]at LF;obtain⟨A,hA⟩:∃A,UL V M=A:=⟨_,rfl⟩;rw[xK,hV,hA];have IZ:=YU k (by omega);have hAk:A k=M k:=by rw[←hA];exact if_pos (by omega)
  refine sQ fun N hN=>?_;simp-dsimp-implicitDefEqProofs(disch:=omega)only[go_sem,ints,rows,A6,A7,CZ];apply hN;refine AW.seq fun N7 JO=>?_;refine AW.cond rfl ?_ ?_<;>intro h3
  ·try simp only[cn]at h3
   have hl:=hlen g (by omega);have hr:=pK g k (by omega) (by omega);have lL:=L4.2 g (by omega);rw[hV]at lL;have Yu:=YT h (x:=k) (by omega) L4.1 hb.2 (iP h hy hn k hk) (g+1) (by omega);have hAz:A ((tb.getD g []).getD k 0).toNat=if ((((tb.getD g []).getD k 0).toNat:Nat):Int)<V then M ((tb.getD g []).getD k 0).toNat else-1:=by rw[←hA];rfl
   apply AW.skip;apply JO;refine AW.seq fun N8 JJ=>?_;apply AW.block;refine sQ fun N hN=>?_;simp-dsimp-implicitDefEqProofs(disch:=omega)only[go_sem,ints,rows,A6,A7,CZ];apply hN;refine AW.seq fun N9 M6=>?_;refine sQ fun N hN=>?_;simp-dsimp-implicitDefEqProofs(disch:=omega)only[go_sem,ints,rows,A6,A7,CZ];apply hN;refine AW.cond rfl ?_ ?_<;>intro h4
   ·(try simp only[cn]at h4);have hz:(tb.getD g []).getD k 0=V:=by
     rw[hAz]at h4;split at h4
     ·have:=YU ((tb.getD g []).getD k 0).toNat (by assumption);omega
     omega
    have hs:E2 tb k (g+1) (CF tb k)=V+1:=by rw[E2,hV,if_pos hz]
    have hM:LD tb k (g+1) (CF tb k) (HV tb y k)=(AX M ((tb.getD g []).getD k 0).toNat ((tb.getD g []).getD (M k).toNat 0)):=by rw[LD,hV,if_pos hz,xK]
    rw[hs,hM]at Yu;have hqk:=Yu k (by omega);have hA':(AX A ((tb.getD g []).getD k 0).toNat ((tb.getD g []).getD (A k).toNat 0))=UL (V+1) ((AX M ((tb.getD g []).getD k 0).toNat ((tb.getD g []).getD (M k).toNat 0))):=by
     rw[hAk];funext z;unfold AX UL;rw[←hA];unfold UL;by_cases e:z=((tb.getD g []).getD k 0).toNat
     ·simp only[e,if_true];rw[if_pos (by omega)]
     simp only[e,if_false];by_cases e2:(z:Int)<V
     ·rw[if_pos e2,if_pos (by omega)]
     rw[if_neg e2,if_neg (by omega)]
    have e1:(AX A ((tb.getD g []).getD k 0).toNat ((tb.getD g []).getD (A k).toNat 0)) ((tb.getD g []).getD k 0).toNat=(AX M ((tb.getD g []).getD k 0).toNat ((tb.getD g []).getD (M k).toNat 0)) ((tb.getD g []).getD k 0).toNat:=by rw[hA'];exact if_pos (by omega)
    have e2:(AX A ((tb.getD g []).getD k 0).toNat ((tb.getD g []).getD (A k).toNat 0)) k=(AX M ((tb.getD g []).getD k 0).toNat ((tb.getD g []).getD (M k).toNat 0)) k:=by rw[hA'];exact if_pos (by omega)
    have hr3:0≤(AX A ((tb.getD g []).getD k 0).toNat ((tb.getD g []).getD (A k).toNat 0)) k∧(AX A ((tb.getD g []).getD k 0).toNat ((tb.getD g []).getD (A k).toNat 0)) k≤(n:Int)-1:=by rw[e2];exact hqk
    refine AW.BI A9 (by kernel_rfl) 13 (by kernel_rfl) ?_;simp-dsimp-implicitDefEqProofs(disch:=omega)only[B3,B4,BH,List.take_succ_cons,List.take_zero,List.drop_succ_cons,List.drop_zero,List.take_nil,List.drop_nil,go_sem,undef,ints,rows,A6,A7,AJ,CZ];apply M6;refine AW.seq fun N hN=>?_;refine AW.BI A9 (by kernel_rfl) 15 (by kernel_rfl) ?_
    simp-dsimp-implicitDefEqProofs(disch:=omega)only[B3,B4,BH,List.take_succ_cons,List.take_zero,List.drop_succ_cons,List.drop_zero,List.take_nil,List.drop_nil,go_sem,undef,ints,rows,A6,A7,AJ,CZ];apply hN;refine AW.cond rfl ?_ ?_<;>intro h5
    ·(try simp only[cn]at h5);refine sQ fun N hN=>?_;simp-dsimp-implicitDefEqProofs(disch:=omega)only[go_sem,ints,rows,A6,A7,CZ];apply hN;apply AW.ret;simp-dsimp-implicitDefEqProofs(disch:=omega)only[go_sem];exact bt (CE (fun hq=>h5 (by have J9:=hq.1 k (by omega) g (by omega);unfold S0 at J9;rw[hM,←e1,←e2]at J9;exact J9))).symm
    (try simp only[cn]at h5);apply AW.skip;apply JJ;apply rQ;simp-dsimp-implicitDefEqProofs(disch:=omega)only[go_sem,ints,rows,A6,A7,CZ];refine⟨g+1,?_,by rw[hs,hM,hA'];exact Le.refl _,?_,?_⟩
    ·simp(disch:=omega) [AO,AQ,sl,AJ,ints,rows,A4,ints,rows,A6,A7,AJ,CZ]<;>omega
    ·refine⟨by omega,fun j hj=>?_⟩;by_cases e:j=g
     ·subst e;unfold S0;rw[hM,←e1,←e2];exact h5
     exact hJ j (by omega)
    first|omega|(simp only;omega)
   try simp only[cn]at h4
   have hz:¬(tb.getD g []).getD k 0=V:=by
    intro e;rw[hAz,if_neg (by omega)]at h4;omega
   have hs:E2 tb k (g+1) (CF tb k)=V:=by rw[E2,hV,if_neg hz]
   have hM:LD tb k (g+1) (CF tb k) (HV tb y k)=M:=by rw[LD,hV,if_neg hz,xK]
   have e1:A ((tb.getD g []).getD k 0).toNat=M ((tb.getD g []).getD k 0).toNat:=by rw[hAz];exact if_pos (by omega)
   apply AW.skip;apply M6;refine AW.seq fun N hN=>?_;refine AW.BI A9 (by kernel_rfl) 15 (by kernel_rfl) ?_
   simp-dsimp-implicitDefEqProofs(disch:=omega)only[B3,B4,BH,List.take_succ_cons,List.take_zero,List.drop_succ_cons,List.drop_zero,List.take_nil,List.drop_nil,go_sem,undef,ints,rows,A6,A7,AJ,CZ];apply hN;refine AW.cond rfl ?_ ?_<;>intro h6
   ·(try simp only[cn]at h6);refine sQ fun N hN=>?_;simp-dsimp-implicitDefEqProofs(disch:=omega)only[go_sem,ints,rows,A6,A7,CZ];apply hN;apply AW.ret;simp-dsimp-implicitDefEqProofs(disch:=omega)only[go_sem];exact bt (CE (fun hq=>h6 (by have J9:=hq.1 k (by omega) g (by omega);unfold S0 at J9;rw[hM,←e1,←hAk]at J9;exact J9))).symm
   try simp only[cn]at h6
   apply AW.skip;apply JJ;apply rQ;simp-dsimp-implicitDefEqProofs(disch:=omega)only[go_sem,ints,rows,A6,A7,CZ];refine⟨g+1,?_,by rw[hs,hM,hA];exact Le.refl _,?_,?_⟩
   ·simp(disch:=omega) [AO,AQ,sl,AJ,ints,rows,A4,ints,rows,A6,A7,AJ,CZ]<;>omega
   ·refine⟨by omega,fun j hj=>?_⟩;by_cases e:j=g
    ·subst e;unfold S0;rw[hM,←e1,←hAk];exact h6
    exact hJ j (by omega)
   first|omega|(simp only;omega)
  try simp only[cn]at h3
  apply AW.exit;apply HC;apply rQ;simp-dsimp-implicitDefEqProofs(disch:=omega)only[go_sem,ints,rows,A6,A7,CZ];have Ms:g=tb.length:=by omega
  subst Ms;refine⟨k+1,?_,by rw[HV,CF,xK,hV,hA];exact Le.refl _,?_,?_⟩
  ·simp(disch:=omega) [AO,AQ,sl,AJ,ints,rows,A4,ints,rows,A6,A7,AJ,CZ]<;>omega
  ·refine⟨by omega,fun j hj=>?_⟩;by_cases e:j=k
   ·subst e;exact hJ
   exact hI j (by omega)
  first|omega|(simp only;omega)
 try simp only[cn]at h2
 apply AW.exit;apply CG;refine sQ fun N hN=>?_;simp-dsimp-implicitDefEqProofs(disch:=omega)only[go_sem,ints,rows,A6,A7,CZ];have GA:k=n:=by omega
 subst GA
 have hv:vec k (UL (CF tb k) (HV tb y k))=vec k (HV tb y k):=iG (fun z hz=>if_pos (by rw[xJ h hn];omega))
 refine AC.pure (.vS (HO (vec k (UL (CF tb k) (HV tb y k))) (by rw[C1];omega)) (.cons (Vw.ivq (A1 _ _ _)) .nil) (.b _)) ?_
 try simp-dsimp-implicitDefEqProofs(disch:=omega)only[go_sem,ints,rows,A6,A7,CZ]
 apply hN;apply AW.ret;simp-dsimp-implicitDefEqProofs(disch:=omega)only[go_sem];rw[hv]
 exact bt (RX ⟨fun hq=>⟨hI,hq⟩,fun hq=>hq.2⟩)
def eL(tb:List (List Int)):Prop:=tb.length=0∨∃n,Sz tb n∧(∀g,g<tb.length→xI (tb.getD g []))∧eK tb n∧∀y:Nat,y<n→pI tb n y
def sized(tb:List (List Int))(n:Nat):Prop:=∀g,g<tb.length→(tb.getD g []).length=n∧xI (tb.getD g [])
theorem xL{tb:List (List Int)}(h0:1≤tb.length){n:Nat}(hn:(tb.getD 0 []).length=n)(h4:tb.length≤4)(h1:1≤n)(Hw:n≤128)(hs:sized tb n):Sz tb n:=
  ⟨h1,Hw,h0,h4,fun g hg=>(hs g hg).1,fun g x hg hx=>by
    have h2:=hs g hg;have h3:=h2.2.1 x (by omega);rw[h2.1]at h3;exact h3⟩
theorem Se{tb:List (List Int)}{n m:Nat}(h:Sz tb m)(hn:(tb.getD 0 []).length=n):m=n:=by
  have:=h.len 0 h.G1;omega
theorem eL.out{tb:List (List Int)}{n:Nat}(h:eL tb)(h0:1≤tb.length)(hn:(tb.getD 0 []).length=n):Sz tb n∧sized tb n∧eK tb n∧∀y:Nat,y<n→pI tb n y:=by
  rcases h with h|⟨m,h1,h2,h3,h4⟩
  · omega
  have:=Se h1 hn;subst this;exact⟨h1,fun g hg=>⟨h1.len g hg,h2 g hg⟩,h3,h4⟩
theorem FZ(tb:List (List Int))(hr:B6 tb):BG Tryz.prog 52 [rows tb] (.b (tf (eL tb))):=by
 have hn:=hr.n
 obtain⟨n,CZ⟩:∃n,(tb.getD 0 []).length=n:=⟨_,rfl⟩
 have Yt:n≤1048576:=by rw[←CZ];exact hr.getD 0
 refine BG.AM A9 Tryz.func52 rfl (by kernel_rfl) Tryz.ntmps52 Tryz.results52 (.b _) (fun nx cX=>?_)
 refine sQ fun N hN=>?_;simp-dsimp-implicitDefEqProofs(disch:=omega)only[go_sem,ints,rows,A6,A7,CZ];apply hN;refine AW.seq fun N1 BC=>?_;refine sQ fun N hN=>?_;simp-dsimp-implicitDefEqProofs(disch:=omega)only[go_sem,ints,rows,A6,A7,CZ];apply hN;refine AW.cond rfl ?_ ?_<;>intro h1
 ·try simp only[cn]at h1
  refine sQ fun N hN=>?_;simp-dsimp-implicitDefEqProofs(disch:=omega)only[go_sem,ints,rows,A6,A7,CZ];apply hN;apply AW.ret;simp-dsimp-implicitDefEqProofs(disch:=omega)only[go_sem];exact bt (EN (Or.inl (by omega))).symm
 try simp only[cn]at h1
 have D2:1≤tb.length:=by omega
 apply AW.skip;apply BC;refine sQ fun N hN=>?_;simp-dsimp-implicitDefEqProofs(disch:=omega)only[go_sem,ints,rows,A6,A7,CZ];apply hN;refine AW.seq fun N2 BM=>?_;refine sQ fun N hN=>?_;simp-dsimp-implicitDefEqProofs(disch:=omega)only[go_sem,ints,rows,A6,A7,CZ];refine C9.mk' (fun h2=>?_) (fun h2=>?_)
 ·try simp only[cn]at h2
  try simp-dsimp-implicitDefEqProofs(disch:=omega)only[go_sem,ints,rows,A6,A7,CZ]
  refine C9.mk' (fun h3=>?_) (fun h3=>?_)
  ·try simp only[cn]at h3
   try simp-dsimp-implicitDefEqProofs(disch:=omega)only[go_sem,ints,rows,A6,A7,CZ]
   apply hN;refine AW.cond rfl ?_ ?_<;>intro h4
   ·(try simp only[cn]at h4);refine sQ fun N hN=>?_;simp-dsimp-implicitDefEqProofs(disch:=omega)only[go_sem,ints,rows,A6,A7,CZ];apply hN;apply AW.ret;simp-dsimp-implicitDefEqProofs(disch:=omega)only[go_sem];exact bt (CE (fun hq=>by have:=(hq.out D2 CZ).1.A1H;omega)).symm
   try simp only[cn]at h4
   apply AW.skip;apply BM;refine AW.seq fun N3 BQ=>?_;refine sQ fun N hN=>?_;simp-dsimp-implicitDefEqProofs(disch:=omega)only[go_sem,ints,rows,A6,A7,CZ];apply hN;apply AW.block;refine AW.AF (α:=Nat) (fun x=>sl 83 [(0,rows tb),(3,.i .i64 n),(29,rows tb),(30,.i .i64 tb.length),(31,.i .i64 x)]) (fun _=>BN) (fun x m=>x≤tb.length∧(∀g,g<x→(tb.getD g []).length=n∧xI (tb.getD g []))) (fun x=>tb.length-x) (0) ?_ ?_ (fun _ _ h=>h) ?_
   ·exact⟨by omega,by intro j hj;omega⟩
   ·simp(disch:=omega) [AO,AQ,sl,AJ,ints,rows,A4,ints,rows,A6,A7,AJ,CZ]<;>omega
   skip
   rintro g m ⟨hg,hI⟩;simp-dsimp-implicitDefEqProofs(disch:=omega)only[go_sem];refine sQ fun N hN=>?_;simp-dsimp-implicitDefEqProofs(disch:=omega)only[go_sem,ints,rows,A6,A7,CZ];apply hN;refine AW.seq fun N4 CG=>?_;refine AW.cond rfl ?_ ?_<;>intro h5
   ·(try simp only[cn]at h5);apply AW.skip;apply CG;refine AW.seq fun N5 DW=>?_;apply AW.block;refine sQ fun N hN=>?_;simp-dsimp-implicitDefEqProofs(disch:=omega)only[go_sem,ints,rows,A6,A7,CZ];apply hN;refine sQ fun N hN=>?_;simp-dsimp-implicitDefEqProofs(disch:=omega)only[go_sem,ints,rows,A6,A7,CZ];refine C9.mk' (fun h6=>?_) (fun h6=>?_)
    ·(try simp only[cn]at h6);try simp-dsimp-implicitDefEqProofs(disch:=omega)only[go_sem,ints,rows,A6,A7,CZ]
     refine AC.pure (.of (HO (tb.getD g []) (hr.getD g))) ?_;try simp-dsimp-implicitDefEqProofs(disch:=omega)only[go_sem,ints,rows,A6,A7,CZ]
     apply hN;refine AW.cond rfl ?_ ?_<;>intro h7
     ·(try simp only[cn]at h7);refine sQ fun N hN=>?_;simp-dsimp-implicitDefEqProofs(disch:=omega)only[go_sem,ints,rows,A6,A7,CZ];apply hN;apply AW.ret;simp-dsimp-implicitDefEqProofs(disch:=omega)only[go_sem];exact bt (CE (fun hq=>h7 ((hq.out D2 CZ).2.1 g (by omega)).2)).symm
     (try simp only[cn]at h7);apply AW.skip;apply DW;apply rQ;simp-dsimp-implicitDefEqProofs(disch:=omega)only[go_sem,ints,rows,A6,A7,CZ];refine⟨g+1,?_,fun _ _ h=>h,?_,?_⟩
     ·simp(disch:=omega) [AO,AQ,sl,AJ,ints,rows,A4,ints,rows,A6,A7,AJ,CZ]<;>omega
     ·refine⟨by omega,fun j hj=>?_⟩;by_cases e:j=g
      ·subst e;exact⟨by omega,h7⟩
      exact hI j (by omega)
     first|omega|(simp only;omega)
    (try simp only[cn]at h6);try simp-dsimp-implicitDefEqProofs(disch:=omega)only[go_sem,ints,rows,A6,A7,CZ]
    apply hN;refine AW.DX rfl ?_;refine sQ fun N hN=>?_;simp-dsimp-implicitDefEqProofs(disch:=omega)only[go_sem,ints,rows,A6,A7,CZ];apply hN;apply AW.ret;simp-dsimp-implicitDefEqProofs(disch:=omega)only[go_sem];exact bt (CE (fun hq=>h6 (by have:=((hq.out D2 CZ).2.1 g (by omega)).1;omega))).symm
   try simp only[cn]at h5
   apply AW.exit;apply BQ;refine sQ fun N hN=>?_;simp-dsimp-implicitDefEqProofs(disch:=omega)only[go_sem,ints,rows,A6,A7,CZ];apply hN;refine AW.seq fun N6 HC=>?_;refine sQ fun N hN=>?_;simp-dsimp-implicitDefEqProofs(disch:=omega)only[go_sem,ints,rows,A6,A7,CZ];apply hN;apply AW.block;have Sf:sized tb n:=fun j hj=>hI j (by omega)
   have EW:=xL D2 CZ (by omega) (by omega) (by omega) Sf;obtain⟨UM,TJ,F0,hG,hlen,pK⟩:=id EW;refine AW.AF (α:=Nat) (fun x=>sl 83 [(0,rows tb),(3,.i .i64 n),(6,.i .i64 (CF tb x)),(45,.i .i64 n),(46,.i .i64 x)]) (fun _=>BN) (fun x m=>x≤n∧(∀k,k<x→Bm tb k)) (fun x=>n-x) (0) ?_ ?_ (fun _ _ h=>h) ?_
   ·exact⟨by omega,by intro j hj;omega⟩
   ·simp[AO,AQ,sl,CF,rows]
   skip
   rintro k m2 ⟨hk,hJ⟩;simp-dsimp-implicitDefEqProofs(disch:=omega)only[go_sem];have hb:=PT EW k hk;refine sQ fun N hN=>?_;simp-dsimp-implicitDefEqProofs(disch:=omega)only[go_sem,ints,rows,A6,A7,CZ];apply hN;refine AW.seq fun N7 JO=>?_;refine AW.cond rfl ?_ ?_<;>intro h8
   ·(try simp only[cn]at h8);apply AW.skip;apply JO;refine AW.seq fun N8 JJ=>?_;apply AW.block;refine sQ fun N hN=>?_;simp-dsimp-implicitDefEqProofs(disch:=omega)only[go_sem,ints,rows,A6,A7,CZ];apply hN;refine AW.seq fun N9 M6=>?_;refine sQ fun N hN=>?_;simp-dsimp-implicitDefEqProofs(disch:=omega)only[go_sem,ints,rows,A6,A7,CZ];apply hN;refine AW.cond rfl ?_ ?_<;>intro h9
    ·(try simp only[cn]at h9);refine sQ fun N hN=>?_;simp-dsimp-implicitDefEqProofs(disch:=omega)only[go_sem,ints,rows,A6,A7,CZ];apply hN;apply AW.ret;simp-dsimp-implicitDefEqProofs(disch:=omega)only[go_sem];exact bt (CE (fun hq=>by have:=((hq.out D2 CZ).2.2.1 k (by omega)).1;omega)).symm
    (try simp only[cn]at h9);apply AW.skip;apply M6;refine sQ fun N hN=>?_;simp-dsimp-implicitDefEqProofs(disch:=omega)only[go_sem,ints,rows,A6,A7,CZ];apply hN;apply AW.block;refine AW.AF (α:=Nat) (fun x=>sl 83 [(0,rows tb),(3,.i .i64 n),(6,.i .i64 (E2 tb k x (CF tb k))),(7,.i .i64 k),(45,.i .i64 n),(46,.i .i64 k),(52,rows tb),(53,.i .i64 tb.length),(54,.i .i64 x)]) (fun _=>BN) (fun x m=>x≤tb.length∧∀g,g<x→(tb.getD g []).getD k 0≤E2 tb k g (CF tb k)) (fun x=>tb.length-x) (0) ?_ ?_ (fun _ _ h=>h) ?_
    ·exact⟨by omega,by intro j hj;omega⟩
    ·simp[AO,AQ,sl,E2,rows]
    skip
    rintro q m3 ⟨hq,hK⟩;simp-dsimp-implicitDefEqProofs(disch:=omega)only[go_sem];have LF:=MZ EW (x:=k) (by omega) hb.2 q hq;refine sQ fun N hN=>?_;simp-dsimp-implicitDefEqProofs(disch:=omega)only[go_sem,ints,rows,A6,A7,CZ];apply hN;refine AW.seq fun lF FW=>?_;refine AW.cond rfl ?_ ?_<;>intro LU
    ·(try simp only[cn]at LU);have hl:=hlen q (by omega);have Sh:=pK q k (by omega) (by omega);apply AW.skip;apply FW;refine AW.seq fun p5 HI=>?_;apply AW.block;refine sQ fun N hN=>?_;simp-dsimp-implicitDefEqProofs(disch:=omega)only[go_sem,ints,rows,A6,A7,CZ];apply hN;refine AW.seq fun wX KG=>?_;refine sQ fun N hN=>?_;simp-dsimp-implicitDefEqProofs(disch:=omega)only[go_sem,ints,rows,A6,A7,CZ];apply hN;refine AW.cond rfl ?_ ?_<;>intro IN
     ·(try simp only[cn]at IN);refine sQ fun N hN=>?_;simp-dsimp-implicitDefEqProofs(disch:=omega)only[go_sem,ints,rows,A6,A7,CZ];apply hN;apply AW.ret;simp-dsimp-implicitDefEqProofs(disch:=omega)only[go_sem];exact bt (CE (fun hw=>by have:=((hw.out D2 CZ).2.2.1 k (by omega)).2 q (by omega);omega)).symm
     (try simp only[cn]at IN);apply AW.skip;apply KG;refine sQ fun N hN=>?_;simp-dsimp-implicitDefEqProofs(disch:=omega)only[go_sem,ints,rows,A6,A7,CZ];apply hN;refine AW.cond rfl ?_ ?_<;>intro mN
     ·(try simp only[cn]at mN);have hs:E2 tb k (q+1) (CF tb k)=E2 tb k q (CF tb k)+1:=by rw[E2,if_pos mN]
      apply rQ;simp-dsimp-implicitDefEqProofs(disch:=omega)only[go_sem,ints,rows,A6,A7,CZ];apply HI;apply rQ;simp-dsimp-implicitDefEqProofs(disch:=omega)only[go_sem,ints,rows,A6,A7,CZ];refine⟨q+1,?_,fun _ _ h=>h,?_,?_⟩
      ·simp[AO,AQ,sl,rows,hs]
      ·refine⟨by omega,fun j hj=>?_⟩;by_cases e:j=q
       ·subst e;omega
       exact hK j (by omega)
      first|omega|(simp only;omega)
     (try simp only[cn]at mN);have hs:E2 tb k (q+1) (CF tb k)=E2 tb k q (CF tb k):=by rw[E2,if_neg mN]
     apply AW.skip;apply HI;apply rQ;simp-dsimp-implicitDefEqProofs(disch:=omega)only[go_sem,ints,rows,A6,A7,CZ];refine⟨q+1,?_,fun _ _ h=>h,?_,?_⟩
     ·simp[AO,AQ,sl,rows,hs]
     ·refine⟨by omega,fun j hj=>?_⟩;by_cases e:j=q
      ·subst e;omega
      exact hK j (by omega)
     first|omega|(simp only;omega)
    (try simp only[cn]at LU);apply AW.exit;apply JJ;apply rQ;simp-dsimp-implicitDefEqProofs(disch:=omega)only[go_sem,ints,rows,A6,A7,CZ];have vV:q=tb.length:=by omega
    subst vV;refine⟨k+1,?_,fun _ _ h=>h,?_,?_⟩
    ·simp[AO,AQ,sl,rows,CF]
    ·refine⟨by omega,fun j hj=>?_⟩;by_cases e:j=k
     ·subst e;exact⟨by omega,fun q hq=>hK q (by omega)⟩
     exact hJ j (by omega)
    first|omega|(simp only;omega)
   try simp only[cn]at h8
   apply AW.exit;apply HC;refine AW.seq fun Hq NI=>?_;refine sQ fun N hN=>?_;simp-dsimp-implicitDefEqProofs(disch:=omega)only[go_sem,ints,rows,A6,A7,CZ];apply hN;apply AW.block;have lL:eK tb n:=fun j hj=>hJ j (by omega)
   refine AW.AF (α:=Nat) (fun x=>sl 83 [(0,rows tb),(74,.i .i64 n),(75,.i .i64 x)]) (fun _=>BN) (fun x m=>x≤n∧∀y:Nat,y<x→pI tb n y) (fun x=>n-x) (0) ?_ ?_ (fun _ _ h=>h) ?_
   ·exact⟨by omega,by intro j hj;omega⟩
   ·simp(disch:=omega) [AO,AQ,sl,AJ,ints,rows,A4,ints,rows,A6,A7,AJ,CZ]<;>omega
   skip
   rintro z m4 ⟨hz,hM⟩;simp-dsimp-implicitDefEqProofs(disch:=omega)only[go_sem];refine sQ fun N hN=>?_;simp-dsimp-implicitDefEqProofs(disch:=omega)only[go_sem,ints,rows,A6,A7,CZ];apply hN;refine AW.seq fun Mr R1=>?_;refine AW.cond rfl ?_ ?_<;>intro gK
   ·(try simp only[cn]at gK);apply AW.skip;apply R1;refine AW.seq fun Sb UH=>?_;apply AW.block;refine sQ fun N hN=>?_;simp-dsimp-implicitDefEqProofs(disch:=omega)only[go_sem,ints,rows,A6,A7,CZ];apply hN;refine sQ fun N hN=>?_;simp-dsimp-implicitDefEqProofs(disch:=omega)only[go_sem,ints,rows,A6,A7,CZ];refine AC.pure (.of (PU tb n EW lL z ⟨by omega,by omega⟩)) ?_;try simp-dsimp-implicitDefEqProofs(disch:=omega)only[go_sem,ints,rows,A6,A7,CZ]
    apply hN;refine AW.cond rfl ?_ ?_<;>intro vB
    ·(try simp only[cn]at vB);refine sQ fun N hN=>?_;simp-dsimp-implicitDefEqProofs(disch:=omega)only[go_sem,ints,rows,A6,A7,CZ];apply hN;apply AW.ret;simp-dsimp-implicitDefEqProofs(disch:=omega)only[go_sem];exact bt (CE (fun hq=>vB ((hq.out D2 CZ).2.2.2 z (by omega)))).symm
    (try simp only[cn]at vB);apply AW.skip;apply UH;apply rQ;simp-dsimp-implicitDefEqProofs(disch:=omega)only[go_sem,ints,rows,A6,A7,CZ];refine⟨z+1,?_,fun _ _ h=>h,?_,?_⟩
    ·simp(disch:=omega) [AO,AQ,sl,AJ,ints,rows,A4,ints,rows,A6,A7,AJ,CZ]<;>omega
    ·refine⟨by omega,fun j hj=>?_⟩;by_cases e:j=z
     ·subst e;exact vB
     exact hM j (by omega)
    first|omega|(simp only;omega)
   try simp only[cn]at gK
   apply AW.exit;apply NI;refine sQ fun N hN=>?_;simp-dsimp-implicitDefEqProofs(disch:=omega)only[go_sem,ints,rows,A6,A7,CZ];apply hN;apply AW.ret;simp-dsimp-implicitDefEqProofs(disch:=omega)only[go_sem];exact bt (EN (Or.inr ⟨n,EW,fun g hg=>(Sf g hg).2,lL,fun y hy=>hM y (by omega)⟩)).symm
  try simp only[cn]at h3
  try simp-dsimp-implicitDefEqProofs(disch:=omega)only[go_sem,ints,rows,A6,A7,CZ]
  apply hN;refine AW.DX rfl ?_;refine sQ fun N hN=>?_;simp-dsimp-implicitDefEqProofs(disch:=omega)only[go_sem,ints,rows,A6,A7,CZ];apply hN;apply AW.ret;simp-dsimp-implicitDefEqProofs(disch:=omega)only[go_sem];exact bt (CE (fun hq=>by have:=(hq.out D2 CZ).1.n1;omega)).symm
 try simp only[cn]at h2
 try simp-dsimp-implicitDefEqProofs(disch:=omega)only[go_sem,ints,rows,A6,A7,CZ]
 apply hN;refine AW.DX rfl ?_;refine sQ fun N hN=>?_;simp-dsimp-implicitDefEqProofs(disch:=omega)only[go_sem,ints,rows,A6,A7,CZ];apply hN;apply AW.ret;simp-dsimp-implicitDefEqProofs(disch:=omega)only[go_sem];exact bt (CE (fun hq=>by have:=(hq.out D2 CZ).1.G4;omega)).symm
theorem LG(tb:List (List Int))(hr:B6 tb):BG Tryz.prog 20 [rows tb] (.b (tf (eL tb))):=by
 refine BG.AM A9 Tryz.func20 rfl (by kernel_rfl) Tryz.ntmps20 Tryz.results20 (.b _) (fun nx cX=>?_)
 refine sQ fun N hN=>?_;simp-dsimp-implicitDefEqProofs(disch:=omega)only[go_sem,];apply hN;refine sQ fun N hN=>?_;simp-dsimp-implicitDefEqProofs(disch:=omega)only[go_sem,];refine AC.pure (.of (FZ tb hr)) ?_;try simp-dsimp-implicitDefEqProofs(disch:=omega)only[go_sem,]
 apply hN;apply AW.ret;simp-dsimp-implicitDefEqProofs(disch:=omega)only[go_sem];skip
end Go.Proofs.YtghmeeifjeafmaaGreat
