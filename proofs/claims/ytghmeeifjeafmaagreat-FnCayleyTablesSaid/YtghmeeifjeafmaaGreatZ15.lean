import Derived.Test.YtghmeeifjeafmaaGreatZ10
import Derived.Test.YtghmeeifjeafmaaGreatZ12
import Derived.Test.YtghmeeifjeafmaaGreatZ13
import Derived.Test.YtghmeeifjeafmaaGreatZ14
set_option linter.unusedVariables false
set_option linter.unusedSimpArgs false
namespace Go.Proofs.YtghmeeifjeafmaaGreat
def KJ(m:Nat→V)(k:Nat)(y:V):Nat→V:=fun t=>if t=k then y else m t

theorem YV{P:Pc}{i k:Nat}{m:Nat→V}{y:V}(hm:∀j,T P i (m j))(hy:T P i y):∀j,T P i (KJ m k y j):=by
  intro j;unfold KJ;split
  · exact hy
  exact hm j
noncomputable def MA(P:Pc)(xs tb:List (List Int))(x:Nat):Nat→Int→(Nat→V)→Nat→V
  |0,_,m=>m
  |g+1,v,m=>if (tb.getD g []).getD x 0=E2 tb x g v then KJ (MA P xs tb x g v m) (E2 tb x g v).toNat (M P 0 (MA P xs tb x g v m x) (uD xs g))else MA P xs tb x g v m
noncomputable def OS(P:Pc)(xs tb:List (List Int)):Nat→Nat→V
  |0=>fun _=>z0
  |x+1=>MA P xs tb x tb.length (CF tb x) (OS P xs tb x)
def PV(P:Pc)(xs tb:List (List Int))(x g:Nat):Prop:=
  MA P xs tb x (g+1) (CF tb x) (OS P xs tb x) ((tb.getD g []).getD x 0).toNat=M P 0 (MA P xs tb x g (CF tb x) (OS P xs tb x) x) (uD xs g)
def Hx(P:Pc)(xs tb:List (List Int)):Prop:=tb.length=0∨∀x,x<(tb.getD 0 []).length→∀g,g<tb.length→PV P xs tb x g
section
variable{os:List Int}{pw:List (List Int)}{cj:List (List (List Int))}(h:AI os pw cj){xs:List (List Int)}(hx:OR os xs){tb:List (List Int)}(hl:tb.length≤xs.length)
include h hx hl
theorem pL{x:Nat}{v:Int}{m:Nat→V}(hm:∀k,T (pc os pw cj) 0 (m k)):∀g,g≤tb.length→∀k,T (pc os pw cj) 0 (MA (pc os pw cj) xs tb x g v m k):=by
  intro g;induction g with
  |zero=>intro _;exact hm
  | succ g ih=>
    intro hg k;have uU:=ih (by omega);rw[MA];split
    · unfold KJ;split
      · exact TF h.val (uU x) (pD hx (by omega))
      exact uU k
    exact uU k
theorem Hy:∀x k,T (pc os pw cj) 0 (OS (pc os pw cj) xs tb x k):=by
  intro x;induction x with
  |zero=>intro k;exact T.zero h.val 0
  |succ x ih=>exact pL h hx hl ih tb.length (Nat.le_refl _)
end
theorem L7.cell{H:HP}{i j n k:Nat}{cs ds:List AV}(h1:H i=some cs)(hk:cs[k]? =some (.h j 0 n))(h2:H j=some ds)(hn:ds.length=n)(JI:i≠j):L7 H (AU (AU H j none) i (some (cs.set k (.v n ds)))):=by
  intro q CX hq;by_cases e:q=i
  · subst e;rw[A1]at hq;cases hq;refine⟨_,h1,by simp,fun z x y hx hy=>?_⟩;rw[List.getElem?_set]at hy;split at hy
    · rename_i hz;subst hz;rw[hk]at hx;cases hx;split at hy
      · cases hy;exact .h j 0 n ds ds h2 (by rw[A0 _ _ (Ne.symm JI),A1]) (by omega) hn (fun q x y h1 h2=>by rw[Nat.zero_add,h2]at h1;cases h1;exact .refl _)
      cases hy
    rw[hx]at hy;cases hy;exact .refl _
  rw[A0 _ _ e]at hq;by_cases e2:q=j
  · subst e2;rw[A1]at hq;cases hq
  rw[A0 _ _ e2]at hq;exact⟨CX,hq,rfl,fun q x y h1 h2=>by rw[h1]at h2;cases h2;exact .refl _⟩
theorem AW.Hz{cX:Ctx}{P:Program}{c:Code}{s:St}{K:Exit→St→Prop}(i j n k:Nat)(cs ds:List AV)(h1:s.H i=some cs)(hk:cs[k]? =some (.h j 0 n))(h2:s.H j=some ds)(hn:ds.length=n)(JI:i≠j)
    (hs:AW cX P c ⟨s.t,AU (AU s.H j none) i (some (cs.set k (.v n ds))),s.nx⟩ K):AW cX P c s K:=
  AW.fz (s':=⟨s.t,AU (AU s.H j none) i (some (cs.set k (.v n ds))),s.nx⟩) ⟨M3,L7.cell h1 hk h2 hn JI,Nat.le_refl _⟩ hs
def QM(N n v:Nat)(m:Nat→V):List AV:=(List.range N).map fun k=>if k<v then vi n (m k)else .nl
theorem YW{N n v:Nat}{m:Nat→V}:(QM N n v m).length=N:=by simp[QM]
theorem TK{N n v:Nat}{m:Nat→V}{t:Nat}(h:t<N)(h2:t<v):(QM N n v m).getD t .j=vi n (m t):=by simp[QM,h,h2]
theorem Ia{N n v:Nat}{m:Nat→V}{t:Nat}(h:t<N)(h2:v≤t):(QM N n v m).getD t .j= .nl:=by simp[QM,h];omega
theorem xM{N n v:Nat}{m:Nat→V}{y:V}(h:v<N):B0 (QM N n v m) v [vi n y]=QM N n (v+1) (KJ m v y):=by
  rw[BL _ _ _ (by rw[YW];exact h)];apply List.ext_getElem?;intro i;rw[List.getElem?_set];by_cases hi:v=i
  · subst hi;simp[QM,KJ,h]
  simp only[hi,if_false,QM,List.getElem?_map];by_cases hn:i<N
  · simp only[List.getElem?_range hn,Option.map_some,KJ,Ne.symm hi,if_false];by_cases h3:i<v
    · rw[if_pos h3,if_pos (by omega)]
    rw[if_neg h3,if_neg (by omega)]
  simp[hn]
theorem xN{N n v t:Nat}{m:Nat→V}{y:V}(h:t<N)(h2:t<v):B0 (QM N n v m) t [vi n y]=QM N n v (KJ m t y):=by
  rw[BL _ _ _ (by rw[YW];exact h)];apply List.ext_getElem?;intro i;rw[List.getElem?_set];by_cases hi:t=i
  · subst hi;simp[QM,KJ,h,h2]
  simp only[hi,if_false,QM,List.getElem?_map];by_cases hn:i<N
  · simp only[List.getElem?_range hn,Option.map_some,KJ,Ne.symm hi,if_false]
  simp[hn]
theorem xO{N n q n':Nat}(h:0<N):(B0 (List.replicate N AV.nl) 0 [AV.h q 0 n']).set 0 (vi n z0)=QM N n 1 (fun _=>z0):=by
  rw[BL _ _ _ (by simpa using h)];apply List.ext_getElem?;intro i;cases i with
  |zero=>simp[QM,h]
  |succ i=>simp[QM,List.getElem?_replicate];by_cases hn:i+1<N<;>simp[hn]
def cmP(tb:List (List Int))(os:List Int)(pw:List (List Int))(cj:List (List (List Int)))(xs:List (List Int)):Prop:=eL tb∧(AI os pw cj∧DI (pc os pw cj) 0)∧xs.length=tb.length∧OR os xs
end Go.Proofs.YtghmeeifjeafmaaGreat
namespace Go.Proofs.YtghmeeifjeafmaaGreat
attribute [go_sem] YW
theorem pM{t:TypeId}{s b:Nat}{z:Value}{q:Bool}:(∃e el,(⟨.slice t,s,b,z,q⟩:TE)=e∧e.d=TD.slice el)=True:=eq_true ⟨_,_,rfl,rfl⟩
theorem pN{os:List Int}{pw:List (List Int)}{cj:List (List (List Int))}{i:Nat}{f g:V}(h0:os.length=0)(hf:T (pc os pw cj) i f)(hg:T (pc os pw cj) i g):f=g:=by
  funext k
  have hn:(pc os pw cj).n=os.length:=rfl;rw[hf.t k (by omega),hg.t k (by omega)]
theorem NK(tb:List (List Int))(Yv:eL tb)(I3:B6 tb)(os:List Int)(pw:List (List Int))(cj:List (List (List Int)))(h:AI os pw cj)(hc:DI (pc os pw cj) 0)(xs:List (List Int))(hx:OR os xs)(hxl:xs.length=tb.length):BG Tryz.prog 53 [rows tb,A5 os pw cj,rows xs] (.b (tf (Hx (pc os pw cj) xs tb))):=by
 have J4:=h.1.1
 have hv:=h.val
 have htn:=I3.n
 obtain⟨n,hn⟩:∃n,(tb.getD 0 []).length=n:=⟨_,rfl⟩
 have hwo:=Hy h hx (tb:=tb) (by omega)
 have hwi:=fun x v m hm=>pL (x:=x) (v:=v) (m:=m) h hx (tb:=tb) (by omega) hm
 refine BG.AM A9 Tryz.func53 rfl (by kernel_rfl) Tryz.ntmps53 Tryz.results53 (.b _) (fun nx cX=>?_)
 refine sQ fun N hN=>?_;simp-dsimp-implicitDefEqProofs(disch:=omega)only[go_sem,A8,A5,rows,ints,A6,A7,vi,hn];apply hN;refine AW.seq fun N1 BC=>?_;refine sQ fun N hN=>?_;simp-dsimp-implicitDefEqProofs(disch:=omega)only[go_sem,A8,A5,rows,ints,A6,A7,vi,hn];apply hN;refine AW.cond rfl ?_ ?_<;>intro h1
 ·try simp only[cn]at h1
  refine sQ fun N hN=>?_;simp-dsimp-implicitDefEqProofs(disch:=omega)only[go_sem,A8,A5,rows,ints,A6,A7,vi,hn];apply hN;apply AW.ret;simp-dsimp-implicitDefEqProofs(disch:=omega)only[go_sem];exact bt (EN (.inl (by omega))).symm
 try simp only[cn]at h1
 obtain⟨hS,hz,lL,A3P⟩:=Yv.out (n:=n) (by omega) hn
 obtain⟨UM,TJ,F0,hG,hlen,pK⟩:=id hS
 apply AW.skip;apply BC;refine sQ fun N hN=>?_;simp-dsimp-implicitDefEqProofs(disch:=omega)only[go_sem,A8,A5,rows,ints,A6,A7,vi,hn];apply hN;refine sQ fun N hN=>?_;simp-dsimp-implicitDefEqProofs(disch:=omega)only[go_sem,A8,A5,rows,ints,A6,A7,vi,hn];apply hN;refine AW.seq fun N2 BM=>?_;refine AW.Hz (nx+1+3+4) (nx+1+3+6+6) os.length 0 (B0 (List.replicate n AV.nl) 0 [AV.h (nx+1+3+6+6) 0 os.length]) (List.replicate os.length (AV.i IntKind.i64 0)) (A1 _ _ _) (by rw[BL (List.replicate n AV.nl) 0 _ (by rw[List.length_replicate];omega)];exact List.getElem?_set_self (by rw[List.length_replicate];omega)) ((A0 _ _ (by omega)).trans (A1 _ _ _)) (by simp) (by omega) ?_
 rw[show AV.v os.length (List.replicate os.length (AV.i IntKind.i64 0))=vi os.length z0 from by rw[CA];rfl,xO (by omega)]
 simp-dsimp-implicitDefEqProofs(disch:=omega)only[go_sem];refine sQ fun N hN=>?_;simp-dsimp-implicitDefEqProofs(disch:=omega)only[go_sem,A8,A5,rows,ints,A6,A7,vi,hn];apply hN;apply AW.block;refine AW.AF (α:=Nat) (fun x=>sl 77 [(0,rows tb),(1,A5 os pw cj),(2,rows xs),(7,.h (nx+1+3+4) 0 n),(29,.i .i64 n),(30,.i .i64 x)]) (fun x=>AU BN (nx+1+3+4) (some (QM n os.length (CF tb x).toNat (OS (pc os pw cj) xs tb x)))) (fun x m=>x≤n∧(∀k,k<x→∀g,g<tb.length→PV (pc os pw cj) xs tb k g)) (fun x=>n-x) (0) ?_ ?_ (by rw[show(CF tb 0).toNat=1 from rfl,OS];intro d cs hd;simp only[AU,BN]at hd ⊢;grind) ?_
 ·exact⟨by omega,by intro j hj;omega⟩
 ·simp[AO,AQ,sl,rows,vi,A5,ints,CF]
 skip
 rintro k m ⟨hk,hI⟩
 simp-dsimp-implicitDefEqProofs(disch:=omega)only[go_sem];have hb:=PT hS k hk
 refine sQ fun N hN=>?_;simp-dsimp-implicitDefEqProofs(disch:=omega)only[go_sem,A8,A5,rows,ints,A6,A7,vi,hn];apply hN;refine AW.seq fun N3 BQ=>?_;refine AW.cond rfl ?_ ?_<;>intro h2
 ·try simp only[cn]at h2
  apply AW.skip;apply BQ;refine AW.seq fun N4 CG=>?_;apply AW.block;refine sQ fun N hN=>?_;simp-dsimp-implicitDefEqProofs(disch:=omega)only[go_sem,A8,A5,rows,ints,A6,A7,vi,hn];apply hN;refine sQ fun N hN=>?_;simp-dsimp-implicitDefEqProofs(disch:=omega)only[go_sem,A8,A5,rows,ints,A6,A7,vi,hn];apply hN;apply AW.block;refine AW.AF (α:=Nat) (fun x=>sl 77 [(0,rows tb),(1,A5 os pw cj),(2,rows xs),(7,.h (nx+1+3+4) 0 n),(8,.i .i64 k),(29,.i .i64 n),(30,.i .i64 k),(33,rows tb),(34,.i .i64 tb.length),(35,.i .i64 x)]) (fun x=>AU BN (nx+1+3+4) (some (QM n os.length (E2 tb k x (CF tb k)).toNat (MA (pc os pw cj) xs tb k x (CF tb k) (OS (pc os pw cj) xs tb k))))) (fun x m=>x≤tb.length∧(∀g,g<x→PV (pc os pw cj) xs tb k g)) (fun x=>tb.length-x) (0) ?_ ?_ (by rw[E2,MA];exact Le.refl _) ?_
  ·exact⟨by omega,by intro j hj;omega⟩
  ·simp[AO,AQ,sl,rows,vi,A5,ints,E2]
  skip
  rintro g m2 ⟨hg,hJ⟩;simp-dsimp-implicitDefEqProofs(disch:=omega)only[go_sem];have LF:=MZ hS (x:=k) (by omega) hb.2 g hg;have L4:=lL k (by omega);have oI:=L4.1;have lM:=hwi k (CF tb k) (OS (pc os pw cj) xs tb k) (hwo k) g hg;obtain⟨m0,U2⟩:∃m0,MA (pc os pw cj) xs tb k g (CF tb k) (OS (pc os pw cj) xs tb k)=m0:=⟨_,rfl⟩;obtain⟨v,xP⟩:∃v,E2 tb k g (CF tb k)=v:=⟨_,rfl⟩;rw[xP]at LF;rw[U2]at lM;rw[U2,xP];refine sQ fun N hN=>?_;simp-dsimp-implicitDefEqProofs(disch:=omega)only[go_sem,A8,A5,rows,ints,A6,A7,vi,hn];apply hN;refine AW.seq fun N5 DW=>?_;refine AW.cond rfl ?_ ?_<;>intro h3
  ·try simp only[cn]at h3
   have hl:=hlen g (by omega);have hr:=pK g k (by omega) (by omega);have pO:=L4.2 g (by omega);rw[xP]at pO;have ex:AV.v (xs.getD g []).length (List.map (AV.i IntKind.i64) (xs.getD g []))=vi os.length (uD xs g):=Hu hx (by omega);have SB:T (pc os pw cj) 0 (uD xs g):=pD hx (by omega);have I4:=TF hv (lM k) SB;obtain⟨y,hy⟩:∃y,M (pc os pw cj) 0 (m0 k) (uD xs g)=y:=⟨_,rfl⟩;rw[hy]at I4;have gk:(QM n os.length v.toNat m0).getD k .j=AV.v os.length (DM os.length (m0 k)):=TK (by omega) (by omega);apply AW.skip;apply DW;refine AW.seq fun N6 HC=>?_;apply AW.block;refine sQ fun N hN=>?_;simp-dsimp-implicitDefEqProofs(disch:=omega)only[go_sem,A8,A5,rows,ints,A6,A7,vi,hn];apply hN;refine AW.seq fun N hN=>?_;refine AW.BI A9 (by kernel_rfl) 11 (by kernel_rfl) ?_
   simp-dsimp-implicitDefEqProofs(disch:=omega)only[B3,B4,BH,List.take_succ_cons,List.take_zero,List.drop_succ_cons,List.drop_zero,List.take_nil,List.drop_nil,go_sem,undef,A8,A5,rows,ints,A6,A7,AJ,vi,hn,gk];rw[ex,show AV.v os.length (DM os.length (m0 k))=vi os.length (m0 k)from rfl];refine⟨_,.of (hy▸(BX os pw cj h 0 hc _ _ (lM k) SB).pure),?_⟩;try simp-dsimp-implicitDefEqProofs(disch:=omega)only[go_sem,A8,A5,rows,ints,A6,A7,vi,hn]
   by_cases hV:(tb.getD g []).getD k 0=v
   ·skip
    have hM:MA (pc os pw cj) xs tb k (g+1) (CF tb k) (OS (pc os pw cj) xs tb k)=KJ m0 v.toNat y:=by rw[MA,xP,if_pos hV,U2,hy]
    have hs:E2 tb k (g+1) (CF tb k)=v+1:=by rw[E2,xP,if_pos hV]
    have tW:(v+1).toNat=v.toNat+1:=by omega
    have gt:(QM n os.length v.toNat m0).getD ((tb.getD g []).getD k 0).toNat .j= .nl:=Ia (by omega) (by omega);have gs:B0 (QM n os.length v.toNat m0) ((tb.getD g []).getD k 0).toNat [AV.v os.length (DM os.length y)]=QM n os.length (v.toNat+1) (KJ m0 v.toNat y):=by rw[hV];exact xM (by omega)
    have gt2:(QM n os.length (v.toNat+1) (KJ m0 v.toNat y)).getD ((tb.getD g []).getD k 0).toNat .j=AV.v os.length (DM os.length (KJ m0 v.toNat y ((tb.getD g []).getD k 0).toNat)):=TK (by omega) (by omega);apply hN;refine AW.seq fun N7 JO=>?_;refine sQ fun N hN=>?_;simp-dsimp-implicitDefEqProofs(disch:=omega)only[go_sem,A8,A5,rows,ints,A6,A7,vi,hn,gt,pM,true_and];apply hN;refine AW.DX rfl ?_;apply rQ;simp-dsimp-implicitDefEqProofs(disch:=omega)only[go_sem,A8,A5,rows,ints,A6,A7,vi,hn,gs];apply JO;refine sQ fun N hN=>?_;simp-dsimp-implicitDefEqProofs(disch:=omega)only[go_sem,A8,A5,rows,ints,A6,A7,vi,hn];rw[gt2,show ∀f,AV.v os.length (DM os.length f)=vi os.length f from fun _=>rfl,show ∀f,AV.v os.length (DM os.length f)=vi os.length f from fun _=>rfl]
    refine AC.pure (.of (D7 (by omega) (YV (k:=v.toNat) lM I4 _) I4)) ?_;try simp-dsimp-implicitDefEqProofs(disch:=omega)only[go_sem,A8,A5,rows,ints,A6,A7,vi,hn]
    apply hN;refine AW.cond rfl ?_ ?_<;>intro h4
    ·(try simp only[cn]at h4);refine sQ fun N hN=>?_;simp-dsimp-implicitDefEqProofs(disch:=omega)only[go_sem,A8,A5,rows,ints,A6,A7,vi,hn];apply hN;apply AW.ret;simp-dsimp-implicitDefEqProofs(disch:=omega)only[go_sem];exact bt (CE (fun hq=>h4 (by have J9:=(hq.resolve_left (by omega)) k (by omega) g (by omega);unfold PV at J9;rw[hM,U2,hy]at J9;exact J9))).symm
    (try simp only[cn]at h4);apply AW.skip;apply HC;apply rQ;simp-dsimp-implicitDefEqProofs(disch:=omega)only[go_sem,A8,A5,rows,ints,A6,A7,vi,hn];refine⟨g+1,?_,by rw[hM,hs,tW];intro d cs hd;simp only[AU,BN]at hd ⊢;grind,?_,?_⟩
    ·simp(disch:=omega) [AO,AQ,sl,AJ,ints,rows,A8,A5,vi,hs,tW]
    ·refine⟨by omega,fun j hj=>?_⟩;by_cases e:j=g
     ·subst e;unfold PV;rw[hM,U2,hy];exact h4
     exact hJ j (by omega)
    first|omega|(simp only;omega)
   skip
   have hM:MA (pc os pw cj) xs tb k (g+1) (CF tb k) (OS (pc os pw cj) xs tb k)=m0:=by rw[MA,xP,if_neg hV,U2]
   have hs:E2 tb k (g+1) (CF tb k)=v:=by rw[E2,xP,if_neg hV]
   have tW:True:=trivial;have gt:(QM n os.length v.toNat m0).getD ((tb.getD g []).getD k 0).toNat .j=AV.v os.length (DM os.length (m0 ((tb.getD g []).getD k 0).toNat)):=TK (by omega) (by omega);have gs:B0 (QM n os.length v.toNat m0) ((tb.getD g []).getD k 0).toNat [AV.v os.length (DM os.length y)]=QM n os.length v.toNat (KJ m0 ((tb.getD g []).getD k 0).toNat y):=xN (by omega) (by omega);have gt2:(QM n os.length v.toNat (KJ m0 ((tb.getD g []).getD k 0).toNat y)).getD ((tb.getD g []).getD k 0).toNat .j=AV.v os.length (DM os.length (KJ m0 ((tb.getD g []).getD k 0).toNat y ((tb.getD g []).getD k 0).toNat)):=TK (by omega) (by omega);apply hN;refine AW.seq fun N8 JJ=>?_;refine sQ fun N hN=>?_;simp-dsimp-implicitDefEqProofs(disch:=omega)only[go_sem,A8,A5,rows,ints,A6,A7,vi,hn,gt,pM,true_and];refine⟨fun h0=>?_,?_⟩
   ·skip
    have MW:KJ m0 ((tb.getD g []).getD k 0).toNat y=m0:=funext fun j=>pN h0 (YV lM I4 j) (lM j)
    apply hN;refine AW.DX rfl ?_;apply rQ;simp-dsimp-implicitDefEqProofs(disch:=omega)only[go_sem,A8,A5,rows,ints,A6,A7,vi,hn,gs];apply JJ;refine sQ fun N hN=>?_;simp-dsimp-implicitDefEqProofs(disch:=omega)only[go_sem,A8,A5,rows,ints,A6,A7,vi,hn];rw[gt2,show ∀f,AV.v os.length (DM os.length f)=vi os.length f from fun _=>rfl,show ∀f,AV.v os.length (DM os.length f)=vi os.length f from fun _=>rfl]
    refine AC.pure (.of (D7 (by omega) (YV (k:=((tb.getD g []).getD k 0).toNat) lM I4 _) I4)) ?_;try simp-dsimp-implicitDefEqProofs(disch:=omega)only[go_sem,A8,A5,rows,ints,A6,A7,vi,hn]
    apply hN;refine AW.cond rfl ?_ ?_<;>intro h5
    ·(try simp only[cn]at h5);refine sQ fun N hN=>?_;simp-dsimp-implicitDefEqProofs(disch:=omega)only[go_sem,A8,A5,rows,ints,A6,A7,vi,hn];apply hN;apply AW.ret;simp-dsimp-implicitDefEqProofs(disch:=omega)only[go_sem];exact bt (CE (fun hq=>h5 (pN h0 (YV lM I4 _) I4))).symm
    (try simp only[cn]at h5);apply AW.skip;apply HC;apply rQ;simp-dsimp-implicitDefEqProofs(disch:=omega)only[go_sem,A8,A5,rows,ints,A6,A7,vi,hn];refine⟨g+1,?_,by rw[hM,hs,MW];intro d cs hd;simp only[AU,BN]at hd ⊢;grind,?_,?_⟩
    ·simp(disch:=omega) [AO,AQ,sl,AJ,ints,rows,A8,A5,vi,hs,tW]
    ·refine⟨by omega,fun j hj=>?_⟩;by_cases e:j=g
     ·subst e;unfold PV;rw[hM,U2,hy];exact pN h0 (lM _) I4
     exact hJ j (by omega)
    first|omega|(simp only;omega)
   skip
   apply hN;refine AW.C8 rfl ?_;apply AW.skip;apply JJ;refine sQ fun N hN=>?_;simp-dsimp-implicitDefEqProofs(disch:=omega)only[go_sem,A8,A5,rows,ints,A6,A7,vi,hn];rw[gt]
   refine AC.pure (.of (D7 (by omega) (lM _) I4)) ?_;try simp-dsimp-implicitDefEqProofs(disch:=omega)only[go_sem,A8,A5,rows,ints,A6,A7,vi,hn]
   apply hN;refine AW.cond rfl ?_ ?_<;>intro h6
   ·(try simp only[cn]at h6);refine sQ fun N hN=>?_;simp-dsimp-implicitDefEqProofs(disch:=omega)only[go_sem,A8,A5,rows,ints,A6,A7,vi,hn];apply hN;apply AW.ret;simp-dsimp-implicitDefEqProofs(disch:=omega)only[go_sem];exact bt (CE (fun hq=>h6 (by have J9:=(hq.resolve_left (by omega)) k (by omega) g (by omega);unfold PV at J9;rw[hM,U2,hy]at J9;exact J9))).symm
   try simp only[cn]at h6
   apply AW.skip;apply HC;apply rQ;simp-dsimp-implicitDefEqProofs(disch:=omega)only[go_sem,A8,A5,rows,ints,A6,A7,vi,hn];refine⟨g+1,?_,by rw[hM,hs];exact Le.refl _,?_,?_⟩
   ·simp(disch:=omega) [AO,AQ,sl,AJ,ints,rows,A8,A5,vi,hs,tW]
   ·refine⟨by omega,fun j hj=>?_⟩;by_cases e:j=g
    ·subst e;unfold PV;rw[hM,U2,hy];exact h6
    exact hJ j (by omega)
   first|omega|(simp only;omega)
  try simp only[cn]at h3
  apply AW.exit;apply CG;apply rQ;simp-dsimp-implicitDefEqProofs(disch:=omega)only[go_sem,A8,A5,rows,ints,A6,A7,vi,hn];have Ms:g=tb.length:=by omega
  subst Ms;refine⟨k+1,?_,by rw[CF,OS,U2,xP];exact Le.refl _,?_,?_⟩
  ·simp(disch:=omega) [AO,AQ,sl,AJ,ints,rows,A8,A5,vi,CF,xP]
  ·refine⟨by omega,fun j hj=>?_⟩;by_cases e:j=k
   ·subst e;exact hJ
   exact hI j (by omega)
  first|omega|(simp only;omega)
 try simp only[cn]at h2
 apply AW.exit;apply BM;refine sQ fun N hN=>?_;simp-dsimp-implicitDefEqProofs(disch:=omega)only[go_sem,A8,A5,rows,ints,A6,A7,vi,hn];apply hN;apply AW.ret;simp-dsimp-implicitDefEqProofs(disch:=omega)only[go_sem];exact bt (EN (.inr (fun x iQ g hg=>hI x (by omega) g hg))).symm
theorem NL(tb:List (List Int))(I3:B6 tb)(os:List Int)(pw:List (List Int))(cj:List (List (List Int)))(hl:GX os pw cj)(xs:List (List Int))(hx:B6 xs):BG Tryz.prog 19 [rows tb,A8 os pw cj,rows xs] (xE (tf (cmP tb os pw cj xs)) (tf (Hx (pc os pw cj) xs tb))):=by
 have hrn:=I3.n
 have KA:=hx.n
 have I6:=hl.o
 refine BG.AM A9 Tryz.func19 rfl (by kernel_rfl) Tryz.ntmps19 Tryz.results19 (xF _ _) (fun nx cX=>?_)
 refine sQ fun N hN=>?_;simp-dsimp-implicitDefEqProofs(disch:=omega)only[go_sem,A8,rows];apply hN;refine AW.B5 4 nx _ rfl (A1 _ _ _) ?_
 simp-dsimp-implicitDefEqProofs(disch:=omega)only[go_sem];refine AW.seq fun N1 BC=>?_;refine sQ fun N hN=>?_;simp-dsimp-implicitDefEqProofs(disch:=omega)only[go_sem,A8,rows];refine AC.pure (.of (FZ tb I3)) ?_;try simp-dsimp-implicitDefEqProofs(disch:=omega)only[go_sem,A8,rows]
 refine C9.mk' (fun h1=>?_) (fun h1=>?_)
 ·try simp only[cn]at h1
  try simp-dsimp-implicitDefEqProofs(disch:=omega)only[go_sem,A8,rows]
  refine AC.pure (.of (EZ os pw cj hl xs hx)) ?_;try simp-dsimp-implicitDefEqProofs(disch:=omega)only[go_sem,A8,rows]
  refine C9.mk' (fun h2=>?_) (fun h2=>?_)
  ·try simp only[cn]at h2
   try simp-dsimp-implicitDefEqProofs(disch:=omega)only[go_sem,A8,rows]
   apply hN;refine AW.cond rfl ?_ ?_<;>intro h3
   ·(try simp only[cn]at h3);refine sQ fun N hN=>?_;simp-dsimp-implicitDefEqProofs(disch:=omega)only[go_sem,A8,rows];apply hN;apply AW.ret;simp-dsimp-implicitDefEqProofs(disch:=omega)only[go_sem];exact(eJ (fun q=>h3 (by have:=q.2.2.1;omega))).symm
   try simp only[cn]at h3
   apply AW.skip;apply BC;refine sQ fun N hN=>?_;simp-dsimp-implicitDefEqProofs(disch:=omega)only[go_sem,A8,rows];refine AC.pure (.of (NK tb h1 I3 os pw cj h2.1.1 h2.1.2 xs h2.2 (by omega))) ?_;try simp-dsimp-implicitDefEqProofs(disch:=omega)only[go_sem,A8,rows]
   apply hN;apply AW.ret;simp-dsimp-implicitDefEqProofs(disch:=omega)only[go_sem];exact(pE ⟨h1,h2.1,by omega,h2.2⟩).symm
  try simp only[cn]at h2
  try simp-dsimp-implicitDefEqProofs(disch:=omega)only[go_sem,A8,rows]
  apply hN;refine AW.DX rfl ?_;refine sQ fun N hN=>?_;simp-dsimp-implicitDefEqProofs(disch:=omega)only[go_sem,A8,rows];apply hN;apply AW.ret;simp-dsimp-implicitDefEqProofs(disch:=omega)only[go_sem];exact(eJ (fun q=>h2 ⟨q.2.1,q.2.2.2⟩)).symm
 try simp only[cn]at h1
 try simp-dsimp-implicitDefEqProofs(disch:=omega)only[go_sem,A8,rows]
 apply hN;refine AW.DX rfl ?_;refine sQ fun N hN=>?_;simp-dsimp-implicitDefEqProofs(disch:=omega)only[go_sem,A8,rows];apply hN;apply AW.ret;simp-dsimp-implicitDefEqProofs(disch:=omega)only[go_sem];exact(eJ (fun q=>h1 q.1)).symm
end Go.Proofs.YtghmeeifjeafmaaGreat
namespace Go.Proofs.YtghmeeifjeafmaaGreat
def Yw(N:Int):Nat→Int
  |0=>1
  |k+1=>if Yw N k≤4096 then Yw N k*N else Yw N k

def E3(v e:Int):AV:= .t [.i .i64 v,.i .i64 e]
theorem xQ(v e:Int):NR (E3 v e):= .t _ (fun k x hk=>by
  match k,hk with
  |0,hk=>cases hk;exact .i _ _
  |1,hk=>cases hk;exact .i _ _)
end Go.Proofs.YtghmeeifjeafmaaGreat
namespace Go.Proofs.YtghmeeifjeafmaaGreat
end Go.Proofs.YtghmeeifjeafmaaGreat
namespace Go.Proofs.YtghmeeifjeafmaaGreat
noncomputable def LL(P:Pc)(x:V)(k:Int):V:=if k<0 then rep (M P 0) (inv P 0 x) (0-k).toNat else rep (M P 0) x k.toNat
noncomputable def xR(P:Pc)(x y:V):V:=M P 0 (inv P 0 (M P 0 y x)) (M P 0 x y)
theorem bB{P:Pc}(hv:F9 P)(hc:DI P 0){x:V}(hx:T P 0 x)(k:Int):T P 0 (LL P x k):=by
  have hg:=BO hv hc;unfold LL;split
  · exact hg.rep (DY hg hx).1 _
  exact hg.rep hx _
theorem Bn{P:Pc}(hv:F9 P)(hc:DI P 0){x y:V}(hx:T P 0 x)(hy:T P 0 y):T P 0 (xR P x y):=by
  have hg:=BO hv hc;exact hg.cl (DY hg (hg.cl hy hx)).1 (hg.cl hx hy)
theorem bC{a b:Int}(hb:0<b):(a.tmod b<0→a.tmod b+b=a%b)∧(0≤a.tmod b→a.tmod b=a%b):=by
  rw[Int.tmod_eq_emod];have h1:=Int.emod_nonneg a (show b≠0 by omega);have h2:=Int.emod_lt_of_pos a hb;split<;>omega
theorem UN(a b:Int)(hb:2≤b∧b≤1000000000):BG Tryz.prog 133 [.i .i64 a,.i .i64 b] (.i .i64 (a%b)):=by
 have hd:=bC (a:=a) (show 0<b by omega)
 have h3:=Int.emod_nonneg a (show b≠0 by omega)
 have h4:=Int.emod_lt_of_pos a (show 0<b by omega)
 have h5: -b≤a.tmod b∧a.tmod b<b:=by rcases Int.lt_or_le (a.tmod b) 0 with h|h;(have:=hd.1 h;omega);(have:=hd.2 h;omega)
 refine BG.AM A9 Tryz.func133 rfl (by kernel_rfl) Tryz.ntmps133 Tryz.results133 (.i _ _) (fun nx cX=>?_)
 refine sQ fun N hN=>?_;simp-dsimp-implicitDefEqProofs(disch:=omega)only[go_sem];apply hN;refine sQ fun N hN=>?_;simp-dsimp-implicitDefEqProofs(disch:=omega)only[go_sem];apply hN;refine AW.seq fun N1 BC=>?_;refine sQ fun N hN=>?_;simp-dsimp-implicitDefEqProofs(disch:=omega)only[go_sem];apply hN;refine AW.cond rfl ?_ ?_<;>intro h1
 ·try simp only[cn]at h1
  apply rQ;simp-dsimp-implicitDefEqProofs(disch:=omega)only[go_sem];apply BC;refine sQ fun N hN=>?_;simp-dsimp-implicitDefEqProofs(disch:=omega)only[go_sem];apply hN;apply AW.ret;simp-dsimp-implicitDefEqProofs(disch:=omega)only[go_sem];rw[hd.1 h1]
 try simp only[cn]at h1
 apply AW.skip;apply BC;refine sQ fun N hN=>?_;simp-dsimp-implicitDefEqProofs(disch:=omega)only[go_sem];apply hN;apply AW.ret;simp-dsimp-implicitDefEqProofs(disch:=omega)only[go_sem];rw[hd.2 h1]
def XP(p a y:Int):Prop:=1≤y∧y<p∧a*y%p=1
theorem Ib{p a:Int}(hp:J0 p)(h1:1≤a)(h2:a<p):∃y,XP p a y:=by
  rcases hp with rfl|rfl|rfl|rfl
  · exact⟨1,by omega,by omega,by omega⟩
  · rcases (show a=1∨a=2 by omega)with rfl|rfl
    · exact⟨1,by decide,by decide,by decide⟩
    exact⟨2,by decide,by decide,by decide⟩
  · rcases (show a=1∨a=2∨a=3∨a=4 by omega)with rfl|rfl|rfl|rfl
    · exact⟨1,by decide,by decide,by decide⟩
    · exact⟨3,by decide,by decide,by decide⟩
    · exact⟨2,by decide,by decide,by decide⟩
    exact⟨4,by decide,by decide,by decide⟩
  rcases (show a=1∨a=2∨a=3∨a=4∨a=5∨a=6 by omega)with rfl|rfl|rfl|rfl|rfl|rfl
  · exact⟨1,by decide,by decide,by decide⟩
  · exact⟨4,by decide,by decide,by decide⟩
  · exact⟨5,by decide,by decide,by decide⟩
  · exact⟨2,by decide,by decide,by decide⟩
  · exact⟨3,by decide,by decide,by decide⟩
  exact⟨6,by decide,by decide,by decide⟩
theorem bD{p a y z:Int}(hy:XP p a y)(hz:XP p a z):y=z:=by
  obtain⟨h1,h2,h3⟩:=hy;obtain⟨h4,h5,h6⟩:=hz;have e:y*(a*z)=z*(a*y):=by rw[Int.mul_left_comm,Int.mul_left_comm z,Int.mul_comm y z]
  have e1:=Int.emod_add_mul_ediv (a*z) p;have e2:=Int.emod_add_mul_ediv (a*y) p;rw[h6]at e1;rw[h3]at e2;rw[←e1,←e2,Int.mul_add,Int.mul_add,Int.mul_one,Int.mul_one,Int.mul_left_comm,Int.mul_left_comm z]at e;have e3:y-z=p*(z*(a*y/p)-y*(a*z/p)):=by rw[Int.mul_sub];omega
  obtain⟨q,hq⟩:∃q,z*(a*y/p)-y*(a*z/p)=q:=⟨_,rfl⟩;rw[hq]at e3;rcases Int.lt_trichotomy q 0 with h|h|h
  · have:p*q≤p*(-1):=Int.mul_le_mul_of_nonneg_left (by omega) (by omega);omega
  · subst h;omega
  have:p*1≤p*q:=Int.mul_le_mul_of_nonneg_left (by omega) (by omega);omega
noncomputable def LH(p a:Int):Int:=Classical.epsilon (XP p a)
theorem PX{p a:Int}(hp:J0 p)(h1:1≤a)(h2:a<p):XP p a (LH p a):=Classical.epsilon_spec (Ib hp h1 h2)
theorem UO(a p:Int)(hp:J0 p)(WU:1≤a)(Mt:a<p):BG Tryz.prog 91 [.i .i64 a,.i .i64 p] (.i .i64 (LH p a)):=by
 have hinv:=PX hp WU Mt
 have hb:=D0 hp
 have xS:=UN a p (by omega)
 rw[Int.emod_eq_of_lt (by omega) Mt]at xS
 refine BG.AM A9 Tryz.func91 rfl (by kernel_rfl) Tryz.ntmps91 Tryz.results91 (.i _ _) (fun nx cX=>?_)
 refine sQ fun N hN=>?_;simp-dsimp-implicitDefEqProofs(disch:=omega)only[go_sem];apply hN;refine AW.seq fun N1 BC=>?_;refine sQ fun N hN=>?_;simp-dsimp-implicitDefEqProofs(disch:=omega)only[go_sem];apply hN;apply AW.block;refine AW.AF (α:=Nat) (fun x=>sl 20 [(0,.i .i64 a),(1,.i .i64 p),(5,.i .i64 x)]) (fun _=>BN) (fun x m=>1≤x∧(x:Int)≤p∧∀y:Int,1≤y→y<x→a*y%p≠1) (fun x=>p.toNat-x) (1) ?_ ?_ (fun _ _ h=>h) ?_
 ·exact⟨by omega,by omega,by intro y q1 q2;omega⟩
 ·simp(disch:=omega) [AO,AQ,sl,AJ,ints,rows,A4,AJ]<;>omega
 skip
 rintro k m ⟨RW,EX,hI⟩
 simp-dsimp-implicitDefEqProofs(disch:=omega)only[go_sem];refine AW.seq fun N2 BM=>?_;refine sQ fun N hN=>?_;simp-dsimp-implicitDefEqProofs(disch:=omega)only[go_sem];apply hN;refine AW.cond rfl ?_ ?_<;>intro h1
 ·try simp only[cn]at h1
  apply AW.skip;apply BM;refine AW.seq fun N3 BQ=>?_;apply AW.block;refine sQ fun N hN=>?_;simp-dsimp-implicitDefEqProofs(disch:=omega)only[go_sem];have hmul:0≤a*(k:Int)∧a*(k:Int)≤49:=⟨Int.mul_nonneg (by omega) (by omega),by have:=Int.mul_le_mul (show a≤7 by omega) (show(k:Int)≤7 by omega) (by omega) (by omega);omega⟩
  have htm:=Int.tmod_eq_emod_of_nonneg (b:=p) hmul.1;refine AC.pure (.of (xS)) ?_;try simp-dsimp-implicitDefEqProofs(disch:=omega)only[go_sem]
  apply hN;refine AW.cond rfl ?_ ?_<;>intro h2
  ·try simp only[cn]at h2
   refine sQ fun N hN=>?_;simp-dsimp-implicitDefEqProofs(disch:=omega)only[go_sem];apply hN;apply AW.ret;simp-dsimp-implicitDefEqProofs(disch:=omega)only[go_sem];rw[bD (y:=(k:Int)) (z:=LH p a) ⟨by omega,by omega,by rw[←htm];exact h2⟩ hinv]
  try simp only[cn]at h2
  apply AW.skip;apply BQ;apply rQ;simp-dsimp-implicitDefEqProofs(disch:=omega)only[go_sem];refine⟨k+1,?_,fun _ _ h=>h,?_,?_⟩
  ·simp(disch:=omega) [AO,AQ,sl,AJ,ints,rows,A4,AJ]<;>omega
  ·refine⟨by omega,by omega,fun y q1 q2=>?_⟩;by_cases e:y=k
   ·subst e;rw[←htm];exact h2
   exact hI y q1 (by omega)
  first|omega|(simp only;omega)
 try simp only[cn]at h1
 apply AW.exit;apply BC;refine sQ fun N hN=>?_;simp-dsimp-implicitDefEqProofs(disch:=omega)only[go_sem];apply hN;apply AW.ret;simp-dsimp-implicitDefEqProofs(disch:=omega)only[go_sem];exact absurd hinv.2.2 (hI _ hinv.1 (by have:=hinv.2.1;omega))
section
variable(os:List Int)(pw:List (List Int))(cj:List (List (List Int)))
theorem FM(h:AI os pw cj)(hc:DI (pc os pw cj) 0)(a:V)(ha:T (pc os pw cj) 0 a)(k:Int)(hk: -1099511627776≤k∧k≤1099511627776):BG Tryz.prog 90 [A8 os pw cj,vi os.length a,.i .i64 k] (vi os.length (LL (pc os pw cj) a k)):=by
 have hg:=BO h.val hc
 refine BG.AM A9 Tryz.func90 rfl (by kernel_rfl) Tryz.ntmps90 Tryz.results90 (J3 _ _) (fun nx cX=>?_)
 refine sQ fun N hN=>?_;simp-dsimp-implicitDefEqProofs(disch:=omega)only[go_sem,A8,A5];apply hN;refine AW.B5 3 nx _ rfl (A1 _ _ _) ?_
 simp-dsimp-implicitDefEqProofs(disch:=omega)only[go_sem];refine AW.seq fun N1 BC=>?_;refine sQ fun N hN=>?_;simp-dsimp-implicitDefEqProofs(disch:=omega)only[go_sem,A8,A5];apply hN;refine AW.cond rfl ?_ ?_<;>intro h1
 ·try simp only[cn]at h1
  have hr:=FK os pw cj h 0 (Nat.zero_le _) hg _ (DY hg ha).1 (0-k).toNat (by omega);rw[Int.toNat_of_nonneg (show 0≤0-k by omega)]at hr;refine AW.seq fun N hN=>?_;refine AW.BI A9 (by kernel_rfl) 8 (by kernel_rfl) ?_
  simp-dsimp-implicitDefEqProofs(disch:=omega)only[B3,B4,BH,List.take_succ_cons,List.take_zero,List.drop_succ_cons,List.drop_zero,List.take_nil,List.drop_nil,go_sem,undef,A8,A5,AJ];refine⟨_,.of (M9 os pw cj h hc a ha),?_⟩;try simp-dsimp-implicitDefEqProofs(disch:=omega)only[go_sem,A8,A5]
  refine⟨_,.of (hr),?_⟩;try simp-dsimp-implicitDefEqProofs(disch:=omega)only[go_sem,A8,A5]
  apply hN;apply AW.ret;simp-dsimp-implicitDefEqProofs(disch:=omega)only[go_sem];rw[LL,if_pos h1]
 try simp only[cn]at h1
 have hr:=FK os pw cj h 0 (Nat.zero_le _) hg _ ha k.toNat (by omega)
 rw[Int.toNat_of_nonneg (show 0≤k by omega)]at hr
 apply AW.skip;apply BC;refine sQ fun N hN=>?_;simp-dsimp-implicitDefEqProofs(disch:=omega)only[go_sem,A8,A5];refine AC.pure (.of (hr)) ?_;try simp-dsimp-implicitDefEqProofs(disch:=omega)only[go_sem,A8,A5]
 apply hN;apply AW.ret;simp-dsimp-implicitDefEqProofs(disch:=omega)only[go_sem];rw[LL,if_neg (by omega)]
theorem SC(h:AI os pw cj)(hc:DI (pc os pw cj) 0)(a b:V)(ha:T (pc os pw cj) 0 a)(hb:T (pc os pw cj) 0 b):BG Tryz.prog 92 [A8 os pw cj,vi os.length a,vi os.length b] (vi os.length (xR (pc os pw cj) a b)):=by
 have hg:=BO h.val hc
 refine BG.AM A9 Tryz.func92 rfl (by kernel_rfl) Tryz.ntmps92 Tryz.results92 (J3 _ _) (fun nx cX=>?_)
 refine sQ fun N hN=>?_;simp-dsimp-implicitDefEqProofs(disch:=omega)only[go_sem,A8,A5];apply hN;refine AW.B5 3 nx _ rfl (A1 _ _ _) ?_
 simp-dsimp-implicitDefEqProofs(disch:=omega)only[go_sem];refine AW.seq fun N hN=>?_;refine AW.BI A9 (by kernel_rfl) 13 (by kernel_rfl) ?_
 simp-dsimp-implicitDefEqProofs(disch:=omega)only[B3,B4,BH,List.take_succ_cons,List.take_zero,List.drop_succ_cons,List.drop_zero,List.take_nil,List.drop_nil,go_sem,undef,A8,A5,AJ];refine⟨_,.of (D8 os pw cj h _ _ hb ha),?_⟩
 try simp-dsimp-implicitDefEqProofs(disch:=omega)only[go_sem,A8,A5]
 refine⟨_,.of (M9 os pw cj h hc _ (hg.cl hb ha)),?_⟩
 try simp-dsimp-implicitDefEqProofs(disch:=omega)only[go_sem,A8,A5]
 refine⟨_,.of (D8 os pw cj h _ _ ha hb),?_⟩
 try simp-dsimp-implicitDefEqProofs(disch:=omega)only[go_sem,A8,A5]
 refine⟨_,.of (D8 os pw cj h _ _ (DY hg (hg.cl hb ha)).1 (hg.cl ha hb)),?_⟩
 try simp-dsimp-implicitDefEqProofs(disch:=omega)only[go_sem,A8,A5]
 apply hN;apply AW.ret;simp-dsimp-implicitDefEqProofs(disch:=omega)only[go_sem];try rfl
def S1(x:V):Nat→Nat→Nat
  |0,k=>k
  |f+1,k=>if x k=0 then S1 x f (k+1)else k
def F1(n:Nat)(x:V):Nat:=S1 x n 0
theorem R5{x:V}:∀f k,k≤S1 x f k∧S1 x f k≤k+f∧(∀j,k≤j→j<S1 x f k→x j=0)∧(S1 x f k<k+f→x (S1 x f k)≠0):=by
  intro f;induction f with
  |zero=>intro k;rw[S1];exact⟨Nat.le_refl _,by omega,fun j h1 h2=>by omega,fun h=>by omega⟩
  | succ f ih=>
    intro k;rw[S1];split
    · rename_i h;obtain⟨i1,i2,i3,i4⟩:=ih (k+1);refine⟨by omega,by omega,fun j h1 h2=>?_,fun h2=>i4 (by omega)⟩;by_cases e:j=k
      · subst e;exact h
      exact i3 j (by omega) h2
    rename_i h;exact⟨Nat.le_refl _,by omega,fun j h1 h2=>by omega,fun _=>h⟩
theorem SD(n:Nat)(hn:n≤1048576)(f:V):BG Tryz.prog 131 [vi n f] (.i .i64 (F1 n f)):=by
 refine BG.AM A9 Tryz.func131 rfl (by kernel_rfl) Tryz.ntmps131 Tryz.results131 (.i _ _) (fun nx cX=>?_)
 refine sQ fun N hN=>?_;simp-dsimp-implicitDefEqProofs(disch:=omega)only[go_sem,vi];apply hN;refine AW.seq fun N1 BC=>?_;refine sQ fun N hN=>?_;simp-dsimp-implicitDefEqProofs(disch:=omega)only[go_sem,vi];apply hN;apply AW.block;refine AW.AF (α:=Nat) (fun x=>sl 18 [(0,vi n f),(3,.i .i64 x)]) (fun _=>BN) (fun x m=>x≤n∧S1 f (n-x) x=F1 n f) (fun x=>n-x) (0) ?_ ?_ (fun _ _ h=>h) ?_
 ·exact⟨by omega,rfl⟩
 ·simp(disch:=omega) [AO,AQ,sl,vi]
 skip
 rintro k m ⟨hk,hI⟩
 simp-dsimp-implicitDefEqProofs(disch:=omega)only[go_sem];refine AW.seq fun N2 BM=>?_;refine sQ fun N hN=>?_;simp-dsimp-implicitDefEqProofs(disch:=omega)only[go_sem,vi];apply hN;refine AW.cond rfl ?_ ?_<;>intro h1
 ·try simp only[cn]at h1
  have hs:S1 f (n-k) k=if f k=0 then S1 f (n-(k+1)) (k+1)else k:=by
   obtain⟨q,hq⟩:∃q,n-k=q+1:=⟨n-k-1,by omega⟩;rw[hq,S1,show n-(k+1)=q by omega]
  apply AW.skip;apply BM;refine AW.seq fun N3 BQ=>?_;apply AW.block;refine sQ fun N hN=>?_;simp-dsimp-implicitDefEqProofs(disch:=omega)only[go_sem,vi];apply hN;refine AW.cond rfl ?_ ?_<;>intro h2
  ·try simp only[cn]at h2
   refine sQ fun N hN=>?_;simp-dsimp-implicitDefEqProofs(disch:=omega)only[go_sem,vi];apply hN;apply AW.ret;simp-dsimp-implicitDefEqProofs(disch:=omega)only[go_sem];rw[←hI,hs,if_neg h2]
  try simp only[cn]at h2
  apply AW.skip;apply BQ;apply rQ;simp-dsimp-implicitDefEqProofs(disch:=omega)only[go_sem,vi];refine⟨k+1,?_,fun _ _ h=>h,?_,?_⟩
  ·simp(disch:=omega) [AO,AQ,sl,AJ,ints,rows,A4,AJ,vi]<;>omega
  ·exact⟨by omega,by rw[←hI,hs,if_pos h2]⟩
  first|omega|(simp only;omega)
 try simp only[cn]at h1
 apply AW.exit;apply BC;refine sQ fun N hN=>?_;simp-dsimp-implicitDefEqProofs(disch:=omega)only[go_sem,vi];apply hN;apply AW.ret;simp-dsimp-implicitDefEqProofs(disch:=omega)only[go_sem];rw[←hI,show n-k=0 by omega,S1,show k=n by omega]
theorem R6(n:Nat)(hn:n≤1048576)(f:V):BG Tryz.prog 88 [vi n f] (.i .i64 (F1 n f)):=by
 refine BG.AM A9 Tryz.func88 rfl (by kernel_rfl) Tryz.ntmps88 Tryz.results88 (.i _ _) (fun nx cX=>?_)
 refine sQ fun N hN=>?_;simp-dsimp-implicitDefEqProofs(disch:=omega)only[go_sem];apply hN;refine sQ fun N hN=>?_;simp-dsimp-implicitDefEqProofs(disch:=omega)only[go_sem];refine AC.pure (.of (SD n hn f)) ?_;try simp-dsimp-implicitDefEqProofs(disch:=omega)only[go_sem]
 apply hN;apply AW.ret;simp-dsimp-implicitDefEqProofs(disch:=omega)only[go_sem];try rfl
end
end Go.Proofs.YtghmeeifjeafmaaGreat
