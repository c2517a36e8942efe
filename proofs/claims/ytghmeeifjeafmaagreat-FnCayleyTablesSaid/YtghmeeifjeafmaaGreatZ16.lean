import Derived.Test.YtghmeeifjeafmaaGreatZ15
set_option linter.unusedVariables false
set_option linter.unusedSimpArgs false
namespace Go.Proofs.YtghmeeifjeafmaaGreat
def pP(n:Nat):Option V→Nat
  |none=>0
  |some _=>n
def Mu(n:Nat):Option V→List AV
  |none=>[]
  |some y=>DM n y
def TL(n:Nat)(t:Nat→Option V):List AV:=(List.range n).map fun d=> .v (pP n (t d)) (Mu n (t d))
theorem YX{n:Nat}{t:Nat→Option V}:(TL n t).length=n:=by simp[TL]
theorem xU{n:Nat}{t:Nat→Option V}{d:Nat}(h:d<n):(TL n t).getD d .j= .v (pP n (t d)) (Mu n (t d)):=by simp[TL,h]
attribute [go_sem] YX xU
def Ic(P:Pc)(t:Nat→Option V):Prop:=∀d y,t d=some y→T P 0 y
noncomputable def EB(P:Pc)(t:Nat→Option V):Nat→Nat→V→Nat×V
  |0,d,x=>(d,x)
  | f+1,d,x=>if x d=0 then EB P t f (d+1) x else match t d with
    |none=>(d,x)
    |some y=>EB P t f (d+1) (M P 0 x (LL P y (0-x d)))
def Si(n:Nat)(z:Nat×V):AV:= .t [.i .i64 z.1,vi n z.2]
section
variable(os:List Int)(pw:List (List Int))(cj:List (List (List Int)))
theorem pQ(f:V)(hn:os.length≤1048576):BG Tryz.prog 104 [vi os.length f] (vi os.length f):=by
  have:=WR (vec os.length f) (by rw[C1];omega);rwa [EE]at this
def B2(n:Nat)(us:List V):AV:= .v us.length (us.map (vi n))
theorem PY{n:Nat}{us:List V}{k:Nat}(h:k<us.length):(us.map (vi n)).getD k .j=vi n (us.getD k z0):=by simp[h]
attribute [go_sem] PY
def WV(os:List Int)(us:List V):Nat→Int
  |0=>1
  |k+1=>WV os us k*os.getD (F1 os.length (us.getD k z0)) 0
theorem pR{os:List Int}{us:List V}(hp:∀i,i<os.length→J0 (os.getD i 0))(hu:∀k,k<us.length→F1 os.length (us.getD k z0)<os.length):∀k,k≤us.length→1≤WV os us k∧WV os us k≤((7^k:Nat):Int):=by
  intro k;induction k with
  |zero=>intro _;simp[WV]
  | succ k ih=>
    intro hk;have h1:=ih (by omega);have h2:=D0 (hp _ (hu k (by omega)));have:=QY h1.1 h1.2 (show 1≤os.getD (F1 os.length (us.getD k z0)) 0 by omega) (show os.getD (F1 os.length (us.getD k z0)) 0≤7 by omega);rw[WV,Nat.pow_succ,Int.natCast_mul];exact⟨this.1,this.2.1⟩
theorem R7(h:AI os pw cj)(us:List V)(hl:us.length≤6)(hu:∀k,k<us.length→F1 os.length (us.getD k z0)<os.length):BG Tryz.prog 48 [A8 os pw cj,B2 os.length us] (.i .i64 (WV os us us.length)):=by
 have J4:=h.1.1
 have J2:=h.2.1
 refine BG.AM A9 Tryz.func48 rfl (by kernel_rfl) Tryz.ntmps48 Tryz.results48 (.i _ _) (fun nx cX=>?_)
 refine sQ fun N hN=>?_;simp-dsimp-implicitDefEqProofs(disch:=omega)only[go_sem,A8,A5,B2,ints,A6];apply hN;refine AW.B5 2 nx _ rfl (A1 _ _ _) ?_
 simp-dsimp-implicitDefEqProofs(disch:=omega)only[go_sem];refine sQ fun N hN=>?_;simp-dsimp-implicitDefEqProofs(disch:=omega)only[go_sem,A8,A5,B2,ints,A6];apply hN;refine AW.seq fun N1 BC=>?_;refine sQ fun N hN=>?_;simp-dsimp-implicitDefEqProofs(disch:=omega)only[go_sem,A8,A5,B2,ints,A6];apply hN;apply AW.block;refine AW.AF (α:=Nat) (fun x=>sl 25 [(1,B2 os.length us),(2,A5 os pw cj),(5,.i .i64 (WV os us x)),(6,.i .i64 x)]) (fun _=>BN) (fun x m=>x≤us.length) (fun x=>us.length-x) (0) ?_ ?_ (by intro d cs hd;cases hd) ?_
 ·omega
 ·simp(disch:=omega) [AO,AQ,sl,A5,ints,rows,A4,B2,WV]
 skip
 rintro k m hk
 simp-dsimp-implicitDefEqProofs(disch:=omega)only[go_sem];refine AW.seq fun N2 BM=>?_;refine sQ fun N hN=>?_;simp-dsimp-implicitDefEqProofs(disch:=omega)only[go_sem,A8,A5,B2,ints,A6];apply hN;refine AW.cond rfl ?_ ?_<;>intro h1
 ·try simp only[cn]at h1
  have hd:=hu k (by omega);have hb:=pR J2 hu (k+1) (by omega);have h7:(7^(k+1):Nat)≤7^6:=Nat.pow_le_pow_right (by omega) (by omega);have hs:WV os us (k+1)=WV os us k*os.getD (F1 os.length (us.getD k z0)) 0:=rfl;apply AW.skip;apply BM;refine AW.seq fun N3 BQ=>?_;apply AW.block;refine AW.BI A9 (by kernel_rfl) 12 (by kernel_rfl) ?_
  simp-dsimp-implicitDefEqProofs(disch:=omega)only[B3,B4,BH,List.take_succ_cons,List.take_zero,List.drop_succ_cons,List.drop_zero,List.take_nil,List.drop_nil,go_sem,undef,A8,A5,AJ,B2,ints,A6];refine⟨_,.of (R6 os.length (by omega) _),?_⟩;try simp-dsimp-implicitDefEqProofs(disch:=omega)only[go_sem,A8,A5,B2,ints,A6]
  apply BQ;apply rQ;simp-dsimp-implicitDefEqProofs(disch:=omega)only[go_sem,A8,A5,B2,ints,A6];refine⟨k+1,?_,fun _ _ h=>h,?_,?_⟩
  ·simp(disch:=omega) [AO,AQ,sl,A5,ints,rows,A4,B2,hs,AJ]
  ·omega
  first|omega|(simp only;omega)
 try simp only[cn]at h1
 apply AW.exit;apply BC;refine sQ fun N hN=>?_;simp-dsimp-implicitDefEqProofs(disch:=omega)only[go_sem,A8,A5,B2,ints,A6];apply hN;apply AW.ret;simp-dsimp-implicitDefEqProofs(disch:=omega)only[go_sem];rw[show k=us.length by omega]
end
end Go.Proofs.YtghmeeifjeafmaaGreat
namespace Go.Proofs.YtghmeeifjeafmaaGreat
theorem AW.Sj{cX:Ctx}{P:Program}{c:Code}{s:St}{K:Exit→St→Prop}(i n:Nat)(h:s.H i=some (List.replicate n .nl))(hs:AW cX P c ⟨s.t,AU s.H i (some (List.replicate n (.v 0 []))),s.nx⟩ K):AW cX P c s K:=by
  refine AW.fz (s':=⟨s.t,AU s.H i (some (List.replicate n (.v 0 []))),s.nx⟩) ⟨M3,?_,Nat.le_refl _⟩ hs;intro q CX hq;by_cases e:q=i
  · subst e;dsimp only at hq;rw[A1]at hq;cases hq;refine⟨_,h,by simp,fun z x y hx hy=>?_⟩;have hz:z<n:=by have:=(List.getElem?_eq_some_iff.1 hx).1;simpa using this
    rw[List.getElem?_replicate,if_pos hz]at hx hy;cases hx;cases hy;exact .nl
  dsimp only at hq;rw[A0 _ _ e]at hq;exact⟨CX,hq,rfl,fun q x y h1 h2=>by rw[h1]at h2;cases h2;exact .refl _⟩
def oset(t:Nat→Option V)(d:Nat)(y:V):Nat→Option V:=fun k=>if k=d then some y else t k
theorem iR{n d:Nat}{t:Nat→Option V}{y:V}(h:d<n):B0 (TL n t) d [.v n (DM n y)]=TL n (oset t d y):=by
  rw[BL _ _ _ (by rw[YX];exact h)];apply List.ext_getElem?;intro i;rw[List.getElem?_set];by_cases hi:d=i
  · subst hi;simp[TL,oset,h,pP,Mu]
  simp only[hi,if_false,TL,List.getElem?_map];by_cases hn:i<n
  · simp[hn,oset,Ne.symm hi]
  simp[hn]
theorem iS{n:Nat}:List.replicate n (AV.v 0 [])=TL n (fun _=>none):=by
  apply List.ext_getElem?;intro i;by_cases hn:i<n<;>simp[TL,hn,pP,Mu]
noncomputable def NM(P:Pc)(dn:Nat→Option V):Nat→Nat→V→V
  |0,_,x=>x
  | f+1,e,x=>NM P dn f (e+1) (match dn e with
    |none=>x
    |some z=>if x e=0 then x else M P 0 x (LL P z (0-x e)))
noncomputable def SE(P:Pc)(n:Nat)(t:Nat→Option V):Nat→Nat→Option V
  |0=>fun _=>none
  | j+1=>match t (n-1-j)with
    |none=>SE P n t j
    |some y=>oset (SE P n t j) (n-1-j) (NM P (SE P n t j) j (n-j) y)
theorem Ie{P:Pc}(hv:F9 P)(hc:DI P 0){dn:Nat→Option V}(hd:Ic P dn):∀f e x,T P 0 x→T P 0 (NM P dn f e x):=by
  intro f;induction f with
  |zero=>intro e x hx;exact hx
  | succ f ih=>
    intro e x hx;rw[NM];refine ih _ _ ?_;cases hz:dn e with
    |none=>exact hx
    | some z=>
      dsimp only;split
      · exact hx
      exact TF hv hx (bB hv hc (hd e z hz) _)
theorem Sk{P:Pc}(hv:F9 P)(hc:DI P 0){n:Nat}{t:Nat→Option V}(ht:Ic P t):∀j,Ic P (SE P n t j):=by
  intro j;induction j with
  |zero=>intro d y h;cases h
  | succ j ih=>
    rw[SE];split
    · exact ih
    rename_i y hy;intro d z hz;unfold oset at hz;split at hz
    · cases hz;exact Ie hv hc ih _ _ _ (ht _ _ hy)
    exact ih d z hz
def DK(dn:Nat→Option V)(k:Nat):List V:=(List.range k).filterMap dn
theorem ER{dn:Nat→Option V}{k:Nat}{y:V}(h:dn k=some y):DK dn (k+1)=DK dn k++[y]:=by simp[DK,List.range_succ,List.filterMap_append,h]
theorem DR{dn:Nat→Option V}{k:Nat}(h:dn k=none):DK dn (k+1)=DK dn k:=by simp[DK,List.range_succ,List.filterMap_append,h]
theorem PZ{dn:Nat→Option V}{k:Nat}:(DK dn k).length≤k:=by
  have:=List.length_filterMap_le dn (List.range k);rw[List.length_range]at this;exact this
theorem iT{n:Nat}{o:Option V}(hn:0<n)(h:pP n o=0):o=none:=by
  cases o with
  |none=>rfl
  |some y=>rw[pP]at h;omega
theorem iU{n:Nat}{o:Option V}(h:pP n o≠0):∃y,o=some y∧AV.v (pP n o) (Mu n o)=vi n y:=by
  cases o with
  |none=>exact absurd rfl h
  |some y=>exact⟨y,rfl,rfl⟩
theorem pS(n:Nat)(us:List V):NR (B2 n us):= .v _ _ (fun k y hk=>by
  obtain⟨z,_,rfl⟩:=List.mem_map.1 (List.mem_of_getElem? hk);exact J3 _ _)
def Bo(n nx nx':Nat)(H H':HP)(r:AV)(X:List V):Prop:=∃id,r= .h id 0 X.length∧nx≤id∧id<nx'∧H'=AU H id (some (X.map (vi n)))
theorem AC.C7{P:Program}{f:FuncId}{nx:Nat}{H:HP}{xs:List AV}{Q:Nat→HP→AV→Prop}(e:Mf P f)(h:(∀i,nx≤i→H i=none)→AC P f nx H xs Q):AC P f nx H xs Q:=by
  refine⟨e,fun L Av w us a b c=>(h fun i hi=>?_).2 L Av w us a b c⟩;cases hh:H i with
  |none=>rfl
  |some cs=>obtain⟨l,h1,_⟩:=a.node i cs hh;rw[b i hi]at h1;cases h1
theorem BG.A1I{P:Program}{f:FuncId}{xs:List AV}{X:AV}(hX:NR X)(h:∀nx,AC P f nx BN xs (fun _ H' r=>Vw H' r X)):BG P f xs X:=by
  refine⟨(h 0).1,fun L M w us hM ⟨n,hn⟩ ha=>((h n).2 L M w us (LX hM) hn (by rw[LY];exact ha)).mono ?_⟩;rintro e w' ⟨u,r,L',nx',H',h1,h2,h3,h4,h5,h6,h7,h8⟩;exact⟨u,h1,⟨fun _ _ h=>h,h7.os,h7.tape,h7.output,h7.size,h7.AD,fun b _ hb=>absurd hb HG⟩,(h2.sound h6 h8).nr hX⟩
theorem Bo.vw{n nx nx':Nat}{H H':HP}{r:AV}{X:List V}(h:Bo n nx nx' H H' r X):Vw H' r (B2 n X):=by
  obtain⟨id,rfl,h1,h2,rfl⟩:=h;exact Vw.D1 (A1 _ _ _) (by simp)
theorem BG.ofS{P:Program}{f:FuncId}{xs:List AV}{n:Nat}{X:List V}(h:∀nx,AC P f nx BN xs (fun nx' H' r=>Bo n nx nx' BN H' r X)):BG P f xs (B2 n X):=
  .A1I (pS _ _) fun nx=>(h nx).mono fun _ _ _ q=>q.vw
theorem AC.frS{P:Program}{f:FuncId}{nx n:Nat}{H:HP}{xs:List AV}{X:List V}(h:AC P f nx BN xs (fun nx' H' r=>Bo n nx nx' BN H' r X)):AC P f nx H xs (fun nx' H' r=>Bo n nx nx' H H' r X):=by
  refine AC.C7 h.1 fun C7=>(AC.frame h).mono ?_
  rintro nx' H' r ⟨H0,⟨id,rfl,h1,h2,rfl⟩,h3,h4⟩;refine⟨id,rfl,h1,h2,funext fun i=>?_⟩;rcases Nat.lt_or_ge i nx with q|q
  · rw[h3 i q,A0 _ _ (by omega)]
  rw[h4 i q];by_cases e:i=id
  · subst e;rw[A1,A1]
  rw[A0 _ _ e,A0 _ _ e,C7 i q];rfl
theorem pT{H:HP}{id:Nat}{c:Option (List AV)}:Le (AU BN id c) (AU H id c):=by
  intro i e hi;by_cases q:i=id
  · subst q;rw[A1]at hi ⊢;exact hi
  rw[A0 _ _ q]at hi;cases hi
section
variable(os:List Int)(pw:List (List Int))(cj:List (List (List Int)))
theorem UP(h:AI os pw cj)(hc:DI (pc os pw cj) 0)(t:Nat→Option V)(ht:Ic (pc os pw cj) t)(nx:Nat):AC Tryz.prog 93 nx BN [A8 os pw cj,.v os.length (TL os.length t)] (fun nx' H' r=>Bo os.length nx nx' BN H' r (DK (SE (pc os pw cj) os.length t os.length) os.length)):=by
 have J4:=h.1.1
 have hv:=h.val
 have hdT:=fun j=>Sk hv hc (n:=os.length) ht j
 refine AC.C2 A9 Tryz.func93 rfl (by kernel_rfl) Tryz.ntmps93 Tryz.results93 (fun C7 cX=>?_)
 refine sQ fun N hN=>?_;simp-dsimp-implicitDefEqProofs(disch:=omega)only[go_sem,A8,A5,vi];apply hN;refine AW.B5 2 nx _ rfl (A1 _ _ _) ?_
 simp-dsimp-implicitDefEqProofs(disch:=omega)only[go_sem];refine sQ fun N hN=>?_;simp-dsimp-implicitDefEqProofs(disch:=omega)only[go_sem,A8,A5,vi];apply hN;refine AW.seq fun N1 BC=>?_;refine AW.Sj (nx+2+2) os.length (A1 _ _ _) ?_
 rw[iS]
 simp-dsimp-implicitDefEqProofs(disch:=omega)only[go_sem];refine sQ fun N hN=>?_;simp-dsimp-implicitDefEqProofs(disch:=omega)only[go_sem,A8,A5,vi];apply hN;apply AW.block;refine AW.AF (α:=Nat) (fun x=>sl 91 [(1,.v os.length (TL os.length t)),(2,A5 os pw cj),(5,.h (nx+2+2) 0 os.length),(6,.i .i64 ((os.length:Int)-1-x))]) (fun x=>AU BN (nx+2+2) (some (TL os.length (SE (pc os pw cj) os.length t x)))) (fun x m=>x≤os.length∧nx+2+4≤m) (fun x=>os.length-x) (0) ?_ ?_ (by rw[SE];intro d cs hd;simp only[AU,BN]at hd ⊢;grind) ?_
 ·exact⟨by omega,by first|omega|(dsimp only;omega)⟩
 ·simp(disch:=omega) [AO,AQ,sl,A5,ints,rows,A4,vi]
 skip
 rintro k m ⟨hk,hm⟩
 simp only[vi,A5];simp-dsimp-implicitDefEqProofs(disch:=omega)only[go_sem];refine AW.seq fun N2 BM=>?_;refine sQ fun N hN=>?_;simp-dsimp-implicitDefEqProofs(disch:=omega)only[go_sem,A8,A5,vi];apply hN;refine AW.cond rfl ?_ ?_<;>intro h1
 ·try simp only[cn]at h1
  have e1:((os.length:Int)-1-k).toNat=os.length-1-k:=by omega
  apply AW.skip;apply BM;refine AW.seq fun N3 BQ=>?_;apply AW.block;refine AW.seq fun N4 CG=>?_;refine sQ fun N hN=>?_;simp-dsimp-implicitDefEqProofs(disch:=omega)only[go_sem,A8,A5,vi,e1];apply hN;refine AW.cond rfl ?_ ?_<;>intro h2
  ·try simp only[cn]at h2
   have hy:t (os.length-1-k)=none:=iT (n:=os.length) (by omega) (by omega);have hs:SE (pc os pw cj) os.length t (k+1)=SE (pc os pw cj) os.length t k:=by rw[SE,hy]
   apply AW.exit;apply BQ;apply rQ;simp-dsimp-implicitDefEqProofs(disch:=omega)only[go_sem,A8,A5,vi];refine⟨k+1,?_,(by rw[hs];exact Le.refl _),?_,?_⟩
   ·simp(disch:=omega) [AO,AQ,sl,A5,ints,rows,A4,vi]<;>omega
   ·exact⟨by omega,by first|omega|(dsimp only;omega)⟩
   first|omega|(simp only;omega)
  try simp only[cn]at h2
  obtain⟨y,hy,hyv⟩:=iU (n:=os.length) (o:=t (os.length-1-k)) (by omega);have I4:=ht _ y hy;have hs:SE (pc os pw cj) os.length t (k+1)=oset (SE (pc os pw cj) os.length t k) (os.length-1-k) (NM (pc os pw cj) (SE (pc os pw cj) os.length t k) k (os.length-k) y):=by rw[SE,hy]
  have hD:=hdT k;obtain⟨D,Sl⟩:∃D,SE (pc os pw cj) os.length t k=D:=⟨_,rfl⟩;rw[Sl]at hs hD;rw[Sl];apply AW.skip;apply CG;refine sQ fun N hN=>?_;simp-dsimp-implicitDefEqProofs(disch:=omega)only[go_sem,A8,A5,vi,e1,hyv];apply hN;refine AW.seq fun N5 DW=>?_;refine sQ fun N hN=>?_;simp-dsimp-implicitDefEqProofs(disch:=omega)only[go_sem,A8,A5,vi];apply hN;apply AW.block;refine AW.AF (α:=Nat×V) (fun x=>sl 91 [(1,.v os.length (TL os.length t)),(2,A5 os pw cj),(5,.h (nx+2+2) 0 os.length),(6,.i .i64 ((os.length:Int)-1-k)),(7,vi os.length x.2),(8,.i .i64 ((os.length:Int)-k+x.1))]) (fun _=>AU BN (nx+2+2) (some (TL os.length D))) (fun x m=>((x.1≤k∧nx+2+4≤m)∧T (pc os pw cj) 0 x.2)∧NM (pc os pw cj) D (k-x.1) (os.length-k+x.1) x.2=NM (pc os pw cj) D k (os.length-k) y) (fun x=>k-x.1) ((0,y)) ?_ ?_ (by exact Le.refl _) ?_
  ·exact⟨⟨⟨by omega,by first|omega|(dsimp only;omega)⟩,I4⟩,rfl⟩
  ·simp(disch:=omega) [AO,AQ,sl,A5,ints,rows,A4,vi]<;>omega
  skip
  rintro⟨q,u⟩ m2 ⟨⟨⟨hq,TI⟩,hu⟩,hI⟩;dsimp only at hq hu hI ⊢;simp only[vi,A5];simp-dsimp-implicitDefEqProofs(disch:=omega)only[go_sem];refine AW.seq fun N6 HC=>?_;refine sQ fun N hN=>?_;simp-dsimp-implicitDefEqProofs(disch:=omega)only[go_sem,A8,A5,vi];apply hN;refine AW.cond rfl ?_ ?_<;>intro h3
  ·try simp only[cn]at h3
   have e2:((os.length:Int)-k+q).toNat=os.length-k+q:=by omega
   have XQ:NM (pc os pw cj) D (k-q) (os.length-k+q) u=NM (pc os pw cj) D (k-(q+1)) (os.length-k+(q+1)) (match D (os.length-k+q)with
     |none=>u
     |some z=>if u (os.length-k+q)=0 then u else M (pc os pw cj) 0 u (LL (pc os pw cj) z (0-u (os.length-k+q)))):=by
    obtain⟨f,hf⟩:∃f,k-q=f+1:=⟨k-q-1,by omega⟩;rw[hf,NM,show k-(q+1)=f by omega];rfl
   have Ig:=hu.r (os.length-k+q) (by omega) (show os.length-k+q<os.length by omega);have huo:=D0 (h.2.1 (os.length-k+q) (by omega));have lN:(pc os pw cj).o (os.length-k+q)=os.getD (os.length-k+q) 0:=rfl;apply AW.skip;apply HC;refine AW.seq fun N7 JO=>?_;apply AW.block;refine sQ fun N hN=>?_;simp-dsimp-implicitDefEqProofs(disch:=omega)only[go_sem,A8,A5,vi,e2];refine C9.mk' (fun h4=>?_) (fun h4=>?_)
   ·(try simp only[cn]at h4);obtain⟨z,hz,Sn⟩:=iU (n:=os.length) (o:=D (os.length-k+q)) (by omega);have Mv:=hD _ z hz;have So:=bB hv hc Mv (0-u (os.length-k+q));try simp-dsimp-implicitDefEqProofs(disch:=omega)only[go_sem,A8,A5,vi]
    apply hN;refine AW.cond rfl ?_ ?_<;>intro h5
    ·(try simp only[cn]at h5);rw[e2]at h5;refine AW.BI A9 (by kernel_rfl) 15 (by kernel_rfl) ?_;simp-dsimp-implicitDefEqProofs(disch:=omega)only[B3,B4,BH,List.take_succ_cons,List.take_zero,List.drop_succ_cons,List.drop_zero,List.take_nil,List.drop_nil,go_sem,undef,A8,A5,AJ,vi,e2];rw[Sn];refine⟨_,.of (FM os pw cj h hc z Mv (0-u (os.length-k+q)) (by omega)),?_⟩;try simp-dsimp-implicitDefEqProofs(disch:=omega)only[go_sem,A8,A5,vi]
     refine⟨_,.of (D8 os pw cj h _ _ hu So),?_⟩;try simp-dsimp-implicitDefEqProofs(disch:=omega)only[go_sem,A8,A5,vi]
     apply JO;apply rQ;simp-dsimp-implicitDefEqProofs(disch:=omega)only[go_sem,A8,A5,vi];refine⟨(q+1,M (pc os pw cj) 0 u (LL (pc os pw cj) z (0-u (os.length-k+q)))),?_,fun _ _ h=>h,?_,?_⟩
     ·simp(disch:=omega) [AO,AQ,sl,A5,ints,rows,A4,vi]<;>omega
     ·exact⟨⟨⟨by omega,by first|omega|(dsimp only;omega)⟩,TF hv hu So⟩,by (try simp only[]);rw[←hI,XQ,hz];dsimp only;rw[if_neg (by omega)]⟩
     first|omega|(simp only;omega)
    (try simp only[cn]at h5);rw[e2]at h5;apply AW.skip;apply JO;apply rQ;simp-dsimp-implicitDefEqProofs(disch:=omega)only[go_sem,A8,A5,vi];refine⟨(q+1,u),?_,fun _ _ h=>h,?_,?_⟩
    ·simp(disch:=omega) [AO,AQ,sl,A5,ints,rows,A4,vi]<;>omega
    ·exact⟨⟨⟨by omega,by first|omega|(dsimp only;omega)⟩,hu⟩,by (try simp only[]);rw[←hI,XQ,hz];dsimp only;rw[if_pos (by omega)]⟩
    first|omega|(simp only;omega)
   try simp only[cn]at h4
   have hz:D (os.length-k+q)=none:=iT (n:=os.length) (by omega) (by omega);try simp-dsimp-implicitDefEqProofs(disch:=omega)only[go_sem,A8,A5,vi]
   apply hN;refine AW.C8 rfl ?_;apply AW.skip;apply JO;apply rQ;simp-dsimp-implicitDefEqProofs(disch:=omega)only[go_sem,A8,A5,vi];refine⟨(q+1,u),?_,fun _ _ h=>h,?_,?_⟩
   ·simp(disch:=omega) [AO,AQ,sl,A5,ints,rows,A4,vi]<;>omega
   ·exact⟨⟨⟨by omega,by first|omega|(dsimp only;omega)⟩,hu⟩,by (try simp only[]);rw[←hI,XQ,hz]⟩
   first|omega|(simp only;omega)
  try simp only[cn]at h3
  apply AW.exit;apply DW;have hqk:q=k:=by omega
  subst hqk;have R8:u=NM (pc os pw cj) D q (os.length-q) y:=by rw[←hI,Nat.sub_self];rfl
  have hg:B0 (TL os.length D) (os.length-1-q) [AV.v os.length (DM os.length u)]=TL os.length (oset D (os.length-1-q) u):=iR (by omega);apply rQ;simp-dsimp-implicitDefEqProofs(disch:=omega)only[go_sem,A8,A5,vi,e1,hg];apply BQ;apply rQ;simp-dsimp-implicitDefEqProofs(disch:=omega)only[go_sem,A8,A5,vi];refine⟨q+1,?_,(by rw[hs,←R8];exact Le.refl _),?_,?_⟩
  ·simp(disch:=omega) [AO,AQ,sl,A5,ints,rows,A4,vi]<;>omega
  ·exact⟨by omega,by first|omega|(dsimp only;omega)⟩
  first|omega|(simp only;omega)
 try simp only[cn]at h1
 apply AW.exit;apply BC;refine sQ fun N hN=>?_;simp-dsimp-implicitDefEqProofs(disch:=omega)only[go_sem,A8,A5,vi];apply hN;refine AW.seq fun N8 JJ=>?_;refine sQ fun N hN=>?_;simp-dsimp-implicitDefEqProofs(disch:=omega)only[go_sem,A8,A5,vi];apply hN;apply AW.block;have L4:k=os.length:=by omega
 subst L4
 obtain⟨D,Sl⟩:∃D,SE (pc os pw cj) os.length t os.length=D:=⟨_,rfl⟩
 rw[Sl]
 refine AW.AF (α:=Nat×Nat×List V) (fun x=>sl 91 [(5,.h (nx+2+2) 0 os.length),(9,.h x.2.1 0 x.2.2.length),(10,.i .i64 x.1)]) (fun x=>AU (AU BN (nx+2+2) (some (TL os.length D))) x.2.1 (some (x.2.2.map (vi os.length)))) (fun x m=>(x.1≤os.length∧nx+2+2<x.2.1∧x.2.1<m)∧x.2.2=DK D x.1) (fun x=>os.length-x.1) ((0,m+2,[])) ?_ ?_ (by intro d cs hd;simp only[AU,BN,List.map_nil]at hd ⊢;grind) ?_
 ·exact⟨⟨by omega,by first|omega|(dsimp only;omega),by first|omega|(dsimp only;omega)⟩,rfl⟩
 ·simp(disch:=omega) [AO,AQ,sl]
 skip
 rintro⟨q,id,K⟩ m3 ⟨⟨hq,DA,xV⟩,hK⟩
 dsimp only at hq DA xV hK ⊢
 refine AW.seq fun N9 M6=>?_;refine sQ fun N hN=>?_;simp-dsimp-implicitDefEqProofs(disch:=omega)only[go_sem,A8,A5,vi];apply hN;refine AW.cond rfl ?_ ?_<;>intro h6
 ·try simp only[cn]at h6
  have Sp:K.length≤6:=by have:=PZ (dn:=D) (k:=q);rw[hK];omega
  apply AW.skip;apply M6;refine AW.seq fun lF FW=>?_;apply AW.block;refine sQ fun N hN=>?_;simp-dsimp-implicitDefEqProofs(disch:=omega)only[go_sem,A8,A5,vi];apply hN;refine AW.cond rfl ?_ ?_<;>intro h7
  ·try simp only[cn]at h7
   obtain⟨z,hz,Sn⟩:=iU (n:=os.length) (o:=D q) (by omega);apply rQ;simp-dsimp-implicitDefEqProofs(disch:=omega)only[go_sem,A8,A5,vi,Sn];apply FW;apply rQ;simp-dsimp-implicitDefEqProofs(disch:=omega)only[go_sem,A8,A5,vi];refine⟨(q+1,m3+4+6+6,K++[z]),?_,(by intro d cs hd;simp only[AU,BN,B1,List.map_append,List.map_cons,List.map_nil,vi]at hd ⊢;grind),?_,?_⟩
   ·simp(disch:=omega) [AO,AQ,sl,AJ]
   ·exact⟨⟨by omega,by first|omega|(dsimp only;omega),by first|omega|(dsimp only;omega)⟩,by (try simp only[]);rw[ER hz,hK]⟩
   first|omega|(simp only;omega)
  try simp only[cn]at h7
  have hz:D q=none:=iT (n:=os.length) (by omega) (by omega);apply AW.skip;apply FW;apply rQ;simp-dsimp-implicitDefEqProofs(disch:=omega)only[go_sem,A8,A5,vi];refine⟨(q+1,id,K),?_,fun _ _ h=>h,?_,?_⟩
  ·simp(disch:=omega) [AO,AQ,sl,AJ]
  ·exact⟨⟨by omega,by first|omega|(dsimp only;omega),by first|omega|(dsimp only;omega)⟩,by (try simp only[]);rw[DR hz,hK]⟩
  first|omega|(simp only;omega)
 try simp only[cn]at h6
 apply AW.exit;apply JJ;refine sQ fun N hN=>?_;simp-dsimp-implicitDefEqProofs(disch:=omega)only[go_sem,A8,A5,vi];apply hN;apply AW.ret;simp-dsimp-implicitDefEqProofs(disch:=omega)only[go_sem];have R8:DK D os.length=K:=by rw[hK,show q=os.length by omega]
 rw[Sl,R8]
 exact⟨_,pT,id,rfl,by omega,by omega,rfl⟩
end
end Go.Proofs.YtghmeeifjeafmaaGreat
