import Derived.Test.YtnlfbimjcabgiaaGreatZ26
set_option linter.unusedVariables false
set_option linter.unusedSimpArgs false
namespace Go.Proofs.YtnlfbimjcabgiaaGreat
open Nat (reduceAdd reduceSub reduceGT reduceEqDiff reduceMul)
def tkl (n:Nat):Option V→Nat
  |none=>0
  |some _=>n
def tkc (n:Nat):Option V→List AV
  |none=>[]
  |some y=>ivs n y
def tbl (n:Nat) (t:Nat→Option V):List AV:=(List.range n).map fun d=> .v (tkl n (t d)) (tkc n (t d))
theorem tbl_len {n:Nat} {t:Nat→Option V}:(tbl n t).length=n:=by simp[tbl]
theorem tbl_get {n:Nat} {t:Nat→Option V} {d:Nat} (h:d<n):(tbl n t).getD d .j= .v (tkl n (t d)) (tkc n (t d)):=by simp[tbl,h]
attribute [go_sem] tbl_len tbl_get
def tbT (P:Pc) (t:Nat→Option V):Prop:=∀d y,t d=some y→T P 0 y
noncomputable def strF (P:Pc) (t:Nat→Option V):Nat→Nat→V→Nat×V
  |0,d,x=>(d,x)
  | f+1,d,x=>if x d=0 then strF P t f (d+1) x else match t d with
    |none=>(d,x)
    |some y=>strF P t f (d+1) (M P 0 x (pwV P y (0-x d)))
def strR (n:Nat) (z:Nat×V):AV:= .t [.i .i64 z.1,vi n z.2]
section
variable (os:List Int) (pw:List (List Int)) (cj:List (List (List Int)))
theorem own_vi (f:V) (hn:os.length≤1048576):ACp Tryz.prog 133 [vi os.length f] (vi os.length f):=by
  have:=spec_l01Own_p (vec os.length f) (by rw[vec_len];omega)
  rwa [vi_ints]at this
def vls (n:Nat) (us:List V):AV:= .v us.length (us.map (vi n))
theorem vls_get {n:Nat} {us:List V} {k:Nat} (h:k<us.length):(us.map (vi n)).getD k .j=vi n (us.getD k z0):=by simp[h]
attribute [go_sem] vls_get
end
end Go.Proofs.YtnlfbimjcabgiaaGreat
namespace Go.Proofs.YtnlfbimjcabgiaaGreat
open Nat (reduceAdd reduceSub reduceGT reduceEqDiff reduceMul)
theorem AW.fznl {P:Program} {c:Code} {s:St} {K:Exit→St→Prop} (i n:Nat) (h:s.H i=some (List.replicate n .nl)) (hs:AW P c ⟨s.t,upd s.H i (some (List.replicate n (.v 0 []))),s.nx⟩ K):AW P c s K:=by
  refine AW.fz (s':=⟨s.t,upd s.H i (some (List.replicate n (.v 0 []))),s.nx⟩) ⟨fzs_refl,?_,Nat.le_refl _⟩ hs
  intro q cs' hq
  by_cases e:q=i
  · subst e
    dsimp only at hq
    rw[upd_same]at hq;cases hq
    refine⟨_,h,by simp,fun z x y hx hy=> ?_⟩
    have hz:z<n:=by have:=(List.getElem?_eq_some_iff.1 hx).1;simpa using this
    rw[List.getElem?_replicate,if_pos hz]at hx hy
    cases hx;cases hy
    exact .nl
  · dsimp only at hq
    rw[upd_ne _ _ e]at hq
    exact⟨cs',hq,rfl,fun q x y h1 h2=>by rw[h1]at h2;cases h2;exact .refl _⟩
def oset (t:Nat→Option V) (d:Nat) (y:V):Nat→Option V:=fun k=>if k=d then some y else t k
theorem tbl_set {n d:Nat} {t:Nat→Option V} {y:V} (h:d<n):splice (tbl n t) d [.v n (ivs n y)]=tbl n (oset t d y):=by
  rw[splice_one _ _ _ (by rw[tbl_len];exact h)]
  apply List.ext_getElem?
  intro i
  rw[List.getElem?_set]
  by_cases hi:d=i
  · subst hi;simp[tbl,oset,h,tkl,tkc]
  · simp only[hi,if_false,tbl,List.getElem?_map]
    by_cases hn:i<n
    · simp[hn,oset,Ne.symm hi]
    · simp[hn]
theorem tbl_nil {n:Nat}:List.replicate n (AV.v 0 [])=tbl n (fun _=>none):=by
  apply List.ext_getElem?
  intro i
  by_cases hn:i<n<;>simp[tbl,hn,tkl,tkc]
noncomputable def redF (P:Pc) (dn:Nat→Option V):Nat→Nat→V→V
  |0,_,x=>x
  | f+1,e,x=>redF P dn f (e+1) (match dn e with
    |none=>x
    |some z=>if x e=0 then x else M P 0 x (pwV P z (0-x e)))
noncomputable def dnS (P:Pc) (n:Nat) (t:Nat→Option V):Nat→Nat→Option V
  |0=>fun _=>none
  | j+1=>match t (n-1-j)with
    |none=>dnS P n t j
    |some y=>oset (dnS P n t j) (n-1-j) (redF P (dnS P n t j) j (n-j) y)
theorem redF_T {P:Pc} (hv:Val P) (hc:Con P 0) {dn:Nat→Option V} (hd:tbT P dn):∀f e x,T P 0 x→T P 0 (redF P dn f e x):=by
  intro f
  induction f with
  |zero=>intro e x hx;exact hx
  | succ f ih=>
    intro e x hx
    rw[redF]
    refine ih _ _ ?_
    cases hz:dn e with
    |none=>exact hx
    | some z=>
      dsimp only
      split
      · exact hx
      · exact M_T hv hx (pwV_T hv hc (hd e z hz) _)
theorem dnS_T {P:Pc} (hv:Val P) (hc:Con P 0) {n:Nat} {t:Nat→Option V} (ht:tbT P t):∀j,tbT P (dnS P n t j):=by
  intro j
  induction j with
  |zero=>intro d y h;cases h
  | succ j ih=>
    rw[dnS]
    split
    · exact ih
    · rename_i y hy
      intro d z hz
      unfold oset at hz
      split at hz
      · cases hz;exact redF_T hv hc ih _ _ _ (ht _ _ hy)
      · exact ih d z hz
def outS (dn:Nat→Option V) (k:Nat):List V:=(List.range k).filterMap dn
theorem outS_some {dn:Nat→Option V} {k:Nat} {y:V} (h:dn k=some y):outS dn (k+1)=outS dn k++[y]:=by simp[outS,List.range_succ,List.filterMap_append,h]
theorem outS_none {dn:Nat→Option V} {k:Nat} (h:dn k=none):outS dn (k+1)=outS dn k:=by simp[outS,List.range_succ,List.filterMap_append,h]
theorem outS_len {dn:Nat→Option V} {k:Nat}:(outS dn k).length≤k:=by
  have:=List.length_filterMap_le dn (List.range k)
  rw[List.length_range]at this
  exact this
theorem tkl_z {n:Nat} {o:Option V} (hn:0<n) (h:tkl n o=0):o=none:=by
  cases o with
  |none=>rfl
  |some y=>rw[tkl]at h;omega
theorem tkl_p {n:Nat} {o:Option V} (h:tkl n o≠0):∃y,o=some y∧AV.v (tkl n o) (tkc n o)=vi n y:=by
  cases o with
  |none=>exact absurd rfl h
  |some y=>exact⟨y,rfl,rfl⟩
theorem vls_nr (n:Nat) (us:List V):NR (vls n us):= .v _ _ (fun k y hk=>by
  obtain⟨z,_,rfl⟩:=List.mem_map.1 (List.mem_of_getElem? hk);exact vi_nr _ _)
def OwS (n nx nx':Nat) (H H':HP) (r:AV) (X:List V):Prop:=∃id,r= .h id 0 X.length∧nx≤id∧id<nx'∧H'=upd H id (some (X.map (vi n)))
theorem AC.hfr {P:Program} {f:FuncId} {nx:Nat} {H:HP} {xs:List AV} {Q:Nat→HP→AV→Prop} (e:Ent P f) (h:(∀i,nx≤i→H i=none)→AC P f nx H xs Q):AC P f nx H xs Q:=by
  refine⟨e,fun L Av w us a b c=>(h fun i hi=> ?_).2 L Av w us a b c⟩
  cases hh:H i with
  |none=>rfl
  |some cs=>obtain⟨l,h1,_⟩:=a.node i cs hh;rw[b i hi]at h1;cases h1
theorem ACp.ofVw {P:Program} {f:FuncId} {xs:List AV} {X:AV} (hX:NR X) (h:∀nx,AC P f nx noH xs (fun _ H' r=>Vw H' r X)):ACp P f xs X:=by
  refine⟨(h 0).1,fun L M w us hM ⟨n,hn⟩ ha=>((h n).2 L M w us (SR_noH hM) hn (by rw[MM_noH];exact ha)).mono ?_⟩
  rintro e w' ⟨u,r,L',nx',H',h1,h2,h3,h4,h5,h6,h7,h8⟩
  exact⟨u,h1,⟨fun _ _ h=>h,h7.os,h7.tape,h7.output,h7.size,h7.keep,fun b _ hb=>absurd hb LB_noH⟩,(h2.sound h6 h8).nr hX⟩
theorem OwS.vw {n nx nx':Nat} {H H':HP} {r:AV} {X:List V} (h:OwS n nx nx' H H' r X):Vw H' r (vls n X):=by
  obtain⟨id,rfl,h1,h2,rfl⟩:=h
  exact Vw.blk (upd_same _ _ _) (by simp)
theorem ACp.ofS {P:Program} {f:FuncId} {xs:List AV} {n:Nat} {X:List V} (h:∀nx,AC P f nx noH xs (fun nx' H' r=>OwS n nx nx' noH H' r X)):ACp P f xs (vls n X):=
  .ofVw (vls_nr _ _) fun nx=>(h nx).mono fun _ _ _ q=>q.vw
theorem AC.frS {P:Program} {f:FuncId} {nx n:Nat} {H:HP} {xs:List AV} {X:List V} (h:AC P f nx noH xs (fun nx' H' r=>OwS n nx nx' noH H' r X)):AC P f nx H xs (fun nx' H' r=>OwS n nx nx' H H' r X):=by
  refine AC.hfr h.1 fun hfr=>(AC.frame h).mono ?_
  rintro nx' H' r ⟨H0,⟨id,rfl,h1,h2,rfl⟩,h3,h4⟩
  refine⟨id,rfl,h1,h2,funext fun i=> ?_⟩
  rcases Nat.lt_or_ge i nx with q|q
  · rw[h3 i q,upd_ne _ _ (by omega)]
  · rw[h4 i q]
    by_cases e:i=id
    · subst e;rw[upd_same,upd_same]
    · rw[upd_ne _ _ e,upd_ne _ _ e,hfr i q];rfl
theorem le_noS {H:HP} {id:Nat} {c:Option (List AV)}:Le (upd noH id c) (upd H id c):=by
  intro i e hi
  by_cases q:i=id
  · subst q;rw[upd_same]at hi ⊢;exact hi
  · rw[upd_ne _ _ q]at hi;cases hi
section
variable (os:List Int) (pw:List (List Int)) (cj:List (List (List Int)))
theorem spec_l12Full_n (h:presOk os pw cj) (hc:Con (pc os pw cj) 0) (t:Nat→Option V) (ht:tbT (pc os pw cj) t) (nx:Nat):AC Tryz.prog 98 nx noH [prs os pw cj,.v os.length (tbl os.length t)] (fun nx' H' r=>OwS os.length nx nx' noH H' r (outS (dnS (pc os pw cj) os.length t os.length) os.length)):=by
 have hn6:=h.1.1
 have hv:=h.val
 have hdT:=fun j=>dnS_T hv hc (n:=os.length) ht j
 refine AC.introx envOk Tryz.func98 rfl (by kernel_rfl) Tryz.ntmps98 Tryz.results98 (fun hfr=> ?_)
 refine AW.sr envOk (fun N hN=> ?_)
 simp-dsimp-implicitDefEqProofs (disch:=omega) only[go_sem,undef,prs,prsP,w64,vi]
 refine hN _ ?_
 try clear hN N
 refine AW.freezeQ 2 nx _ rfl (upd_same _ _ _) ?_
 simp-dsimp-implicitDefEqProofs (disch:=omega) only[go_sem,undef]
 refine AW.sr envOk (fun N hN=> ?_)
 simp-dsimp-implicitDefEqProofs (disch:=omega) only[go_sem,undef,prs,prsP,w64,vi]
 refine hN _ ?_
 try clear hN N
 refine AW.seq (fun N1 hN1=> ?_)
 refine AW.fznl (nx+2+2) os.length (upd_same _ _ _) ?_
 rw[tbl_nil]
 simp-dsimp-implicitDefEqProofs (disch:=omega) only[go_sem,undef]
 refine AW.sr envOk (fun N hN=> ?_)
 simp-dsimp-implicitDefEqProofs (disch:=omega) only[go_sem,undef,prs,prsP,w64,vi]
 refine hN _ ?_
 try clear hN N
 refine AW.block ?_
 refine AW.loopN (α:=Nat) (fun x=>sl 91 [(1,.v os.length (tbl os.length t)),(2,prsP os pw cj),(5,.h (nx+2+2) 0 os.length),(6,.i .i64 ((os.length:Int)-1-x))]) (fun x=>upd noH (nx+2+2) (some (tbl os.length (dnS (pc os pw cj) os.length t x)))) (fun x m=>x≤os.length∧nx+2+4≤m) (fun x=>os.length-x) (0) ?_ ?_ (by rw[dnS];intro d cs hd;simp only[upd,noH]at hd ⊢;grind) ?_
 ·exact⟨by omega,by first|omega|(simp only;omega)|(dsimp only;omega)⟩
 ·simp(disch:=omega) [wks,wkA,sl,prsP,ints,rows,cubes,vi]
 ·skip
  rintro k m ⟨hk,hm⟩
  simp only[vi,prsP]
  simp-dsimp-implicitDefEqProofs (disch:=omega) only[go_sem,undef]
  refine AW.seq (fun N2 hN2=> ?_)
  refine AW.sr envOk (fun N hN=> ?_)
  simp-dsimp-implicitDefEqProofs (disch:=omega) only[go_sem,undef,prs,prsP,w64,vi]
  refine hN _ ?_
  try clear hN N
  refine AW.cond rfl (fun h1=> ?_) (fun h1=> ?_)
  ·try simp only[cn]at h1
   have e1:((os.length:Int)-1-k).toNat=os.length-1-k:=by omega
   refine AW.skip ?_
   simp only[thn,blk]
   refine hN2 _ ?_
   try clear hN2 N2
   refine AW.seq (fun N3 hN3=> ?_)
   refine AW.block ?_
   refine AW.seq (fun N4 hN4=> ?_)
   refine AW.sr envOk (fun N hN=> ?_)
   simp-dsimp-implicitDefEqProofs (disch:=omega) only[go_sem,undef,prs,prsP,w64,vi,e1]
   refine hN _ ?_
   try clear hN N
   refine AW.cond rfl (fun h2=> ?_) (fun h2=> ?_)
   ·try simp only[cn]at h2
    have hy:t (os.length-1-k)=none:=tkl_z (n:=os.length) (by omega) (by omega)
    have hs:dnS (pc os pw cj) os.length t (k+1)=dnS (pc os pw cj) os.length t k:=by rw[dnS,hy]
    refine AW.exit ?_
    simp only[thn,blk,if_true]
    refine hN3 _ ?_
    try clear hN3 N3
    refine AW.regionL envOk ?_
    simp-dsimp-implicitDefEqProofs (disch:=omega) only[go_sem,undef,prs,prsP,w64,vi]
    refine⟨k+1,?_,(by rw[hs];exact Le.refl _),?_,?_⟩
    ·simp(disch:=omega) [wks,wkA,sl,prsP,ints,rows,cubes,vi]<;>omega
    ·exact⟨by omega,by first|omega|(simp only;omega)|(dsimp only;omega)⟩
    ·first|omega|(simp only;omega)
   ·try simp only[cn]at h2
    obtain⟨y,hy,hyv⟩:=tkl_p (n:=os.length) (o:=t (os.length-1-k)) (by omega)
    have hyT:=ht _ y hy
    have hs:dnS (pc os pw cj) os.length t (k+1)=oset (dnS (pc os pw cj) os.length t k) (os.length-1-k) (redF (pc os pw cj) (dnS (pc os pw cj) os.length t k) k (os.length-k) y):=by rw[dnS,hy]
    have hD:=hdT k
    obtain⟨D,hDe⟩:∃D,dnS (pc os pw cj) os.length t k=D:=⟨_,rfl⟩
    rw[hDe]at hs hD
    rw[hDe]
    refine AW.skip ?_
    simp only[thn,blk]
    refine hN4 _ ?_
    try clear hN4 N4
    refine AW.sr envOk (fun N hN=> ?_)
    simp-dsimp-implicitDefEqProofs (disch:=omega) only[go_sem,undef,prs,prsP,w64,vi,e1,hyv]
    refine hN _ ?_
    try clear hN N
    refine AW.seq (fun N5 hN5=> ?_)
    refine AW.sr envOk (fun N hN=> ?_)
    simp-dsimp-implicitDefEqProofs (disch:=omega) only[go_sem,undef,prs,prsP,w64,vi]
    refine hN _ ?_
    try clear hN N
    refine AW.block ?_
    refine AW.loopN (α:=Nat×V) (fun x=>sl 91 [(1,.v os.length (tbl os.length t)),(2,prsP os pw cj),(5,.h (nx+2+2) 0 os.length),(6,.i .i64 ((os.length:Int)-1-k)),(7,vi os.length x.2),(8,.i .i64 ((os.length:Int)-k+x.1))]) (fun _=>upd noH (nx+2+2) (some (tbl os.length D))) (fun x m=>((x.1≤k∧nx+2+4≤m)∧T (pc os pw cj) 0 x.2)∧redF (pc os pw cj) D (k-x.1) (os.length-k+x.1) x.2=redF (pc os pw cj) D k (os.length-k) y) (fun x=>k-x.1) ((0,y)) ?_ ?_ (by exact Le.refl _) ?_
    ·exact⟨⟨⟨by omega,by first|omega|(simp only;omega)|(dsimp only;omega)⟩,hyT⟩,rfl⟩
    ·simp(disch:=omega) [wks,wkA,sl,prsP,ints,rows,cubes,vi]<;>omega
    ·skip
     rintro⟨q,u⟩ m2 ⟨⟨⟨hq,hm2⟩,hu⟩,hI⟩
     dsimp only at hq hu hI ⊢
     simp only[vi,prsP]
     simp-dsimp-implicitDefEqProofs (disch:=omega) only[go_sem,undef]
     refine AW.seq (fun N6 hN6=> ?_)
     refine AW.sr envOk (fun N hN=> ?_)
     simp-dsimp-implicitDefEqProofs (disch:=omega) only[go_sem,undef,prs,prsP,w64,vi]
     refine hN _ ?_
     try clear hN N
     refine AW.cond rfl (fun h3=> ?_) (fun h3=> ?_)
     ·try simp only[cn]at h3
      have e2:((os.length:Int)-k+q).toNat=os.length-k+q:=by omega
      have hs2:redF (pc os pw cj) D (k-q) (os.length-k+q) u=redF (pc os pw cj) D (k-(q+1)) (os.length-k+(q+1)) (match D (os.length-k+q)with
        |none=>u
        |some z=>if u (os.length-k+q)=0 then u else M (pc os pw cj) 0 u (pwV (pc os pw cj) z (0-u (os.length-k+q)))):=by
       obtain⟨f,hf⟩:∃f,k-q=f+1:=⟨k-q-1,by omega⟩
       rw[hf,redF,show k-(q+1)=f by omega];rfl
      have hur:=hu.r (os.length-k+q) (by omega) (show os.length-k+q<os.length by omega)
      have huo:=pr4_bd (h.2.1 (os.length-k+q) (by omega))
      have hoe:(pc os pw cj).o (os.length-k+q)=os.getD (os.length-k+q) 0:=rfl
      refine AW.skip ?_
      simp only[thn,blk]
      refine hN6 _ ?_
      try clear hN6 N6
      refine AW.seq (fun N7 hN7=> ?_)
      refine AW.block ?_
      refine AW.sr envOk (fun N hN=> ?_)
      simp-dsimp-implicitDefEqProofs (disch:=omega) only[go_sem,undef,prs,prsP,w64,vi,e2]
      refine gopB.mk' (fun h4=> ?_) (fun h4=> ?_)
      ·try simp only[cn]at h4
       obtain⟨z,hz,hzv⟩:=tkl_p (n:=os.length) (o:=D (os.length-k+q)) (by omega)
       have hzT:=hD _ z hz
       have hpT:=pwV_T hv hc hzT (0-u (os.length-k+q))
       try simp-dsimp-implicitDefEqProofs (disch:=omega) only[go_sem,undef,prs,prsP,w64,vi]
       refine hN _ ?_
       try clear hN N
       refine AW.cond rfl (fun h5=> ?_) (fun h5=> ?_)
       ·try simp only[cn]at h5
        rw[e2]at h5
        refine AW.drawL envOk (by kernel_rfl) 15 (by kernel_rfl) ?_
        simp-dsimp-implicitDefEqProofs (disch:=omega) only[hr_nil,hr_one,hr_if,List.take_succ_cons,List.take_zero,List.drop_succ_cons,List.drop_zero,List.take_nil,List.drop_nil,go_sem,undef,prs,prsP,w64,vi,e2]
        rw[hzv]
        refine⟨_,.of (spec_l10Pow_ok os pw cj h hc z hzT (0-u (os.length-k+q)) (by omega)),?_⟩
        try simp-dsimp-implicitDefEqProofs (disch:=omega) only[go_sem,undef,prs,prsP,w64,vi]
        refine⟨_,.of (spec_l08Mul_ok os pw cj h _ _ hu hpT),?_⟩
        try simp-dsimp-implicitDefEqProofs (disch:=omega) only[go_sem,undef,prs,prsP,w64,vi]
        refine hN7 _ ?_
        try clear hN7 N7
        refine AW.regionL envOk ?_
        simp-dsimp-implicitDefEqProofs (disch:=omega) only[go_sem,undef,prs,prsP,w64,vi]
        refine⟨(q+1,M (pc os pw cj) 0 u (pwV (pc os pw cj) z (0-u (os.length-k+q)))),?_,fun _ _ h=>h,?_,?_⟩
        ·simp(disch:=omega) [wks,wkA,sl,prsP,ints,rows,cubes,vi]<;>omega
        ·exact⟨⟨⟨by omega,by first|omega|(simp only;omega)|(dsimp only;omega)⟩,M_T hv hu hpT⟩,by (try simp only[]);rw[←hI,hs2,hz];dsimp only;rw[if_neg (by omega)]⟩
        ·first|omega|(simp only;omega)
       ·try simp only[cn]at h5
        rw[e2]at h5
        refine AW.skip ?_
        simp only[thn,blk]
        refine hN7 _ ?_
        try clear hN7 N7
        refine AW.regionL envOk ?_
        simp-dsimp-implicitDefEqProofs (disch:=omega) only[go_sem,undef,prs,prsP,w64,vi]
        refine⟨(q+1,u),?_,fun _ _ h=>h,?_,?_⟩
        ·simp(disch:=omega) [wks,wkA,sl,prsP,ints,rows,cubes,vi]<;>omega
        ·exact⟨⟨⟨by omega,by first|omega|(simp only;omega)|(dsimp only;omega)⟩,hu⟩,by (try simp only[]);rw[←hI,hs2,hz];dsimp only;rw[if_pos (by omega)]⟩
        ·first|omega|(simp only;omega)
      ·try simp only[cn]at h4
       have hz:D (os.length-k+q)=none:=tkl_z (n:=os.length) (by omega) (by omega)
       try simp-dsimp-implicitDefEqProofs (disch:=omega) only[go_sem,undef,prs,prsP,w64,vi]
       refine hN _ ?_
       try clear hN N
       refine AW.condF rfl ?_
       refine AW.skip ?_
       simp only[thn,blk]
       refine hN7 _ ?_
       try clear hN7 N7
       refine AW.regionL envOk ?_
       simp-dsimp-implicitDefEqProofs (disch:=omega) only[go_sem,undef,prs,prsP,w64,vi]
       refine⟨(q+1,u),?_,fun _ _ h=>h,?_,?_⟩
       ·simp(disch:=omega) [wks,wkA,sl,prsP,ints,rows,cubes,vi]<;>omega
       ·exact⟨⟨⟨by omega,by first|omega|(simp only;omega)|(dsimp only;omega)⟩,hu⟩,by (try simp only[]);rw[←hI,hs2,hz]⟩
       ·first|omega|(simp only;omega)
     ·try simp only[cn]at h3
      refine AW.exit ?_
      simp only[thn,blk,if_true]
      refine hN5 _ ?_
      try clear hN5 N5
      have hqk:q=k:=by omega
      subst hqk
      have hfin:u=redF (pc os pw cj) D q (os.length-q) y:=by rw[←hI,Nat.sub_self];rfl
      have hg:splice (tbl os.length D) (os.length-1-q) [AV.v os.length (ivs os.length u)]=tbl os.length (oset D (os.length-1-q) u):=tbl_set (by omega)
      refine AW.regionL envOk ?_
      simp-dsimp-implicitDefEqProofs (disch:=omega) only[go_sem,undef,prs,prsP,w64,vi,e1,hg]
      refine hN3 _ ?_
      try clear hN3 N3
      refine AW.regionL envOk ?_
      simp-dsimp-implicitDefEqProofs (disch:=omega) only[go_sem,undef,prs,prsP,w64,vi]
      refine⟨q+1,?_,(by rw[hs,←hfin];exact Le.refl _),?_,?_⟩
      ·simp(disch:=omega) [wks,wkA,sl,prsP,ints,rows,cubes,vi]<;>omega
      ·exact⟨by omega,by first|omega|(simp only;omega)|(dsimp only;omega)⟩
      ·first|omega|(simp only;omega)
  ·try simp only[cn]at h1
   refine AW.exit ?_
   simp only[thn,blk,if_true]
   refine hN1 _ ?_
   try clear hN1 N1
   refine AW.sr envOk (fun N hN=> ?_)
   simp-dsimp-implicitDefEqProofs (disch:=omega) only[go_sem,undef,prs,prsP,w64,vi]
   refine hN _ ?_
   try clear hN N
   refine AW.seq (fun N8 hN8=> ?_)
   refine AW.sr envOk (fun N hN=> ?_)
   simp-dsimp-implicitDefEqProofs (disch:=omega) only[go_sem,undef,prs,prsP,w64,vi]
   refine hN _ ?_
   try clear hN N
   refine AW.block ?_
   have hkn:k=os.length:=by omega
   subst hkn
   obtain⟨D,hDe⟩:∃D,dnS (pc os pw cj) os.length t os.length=D:=⟨_,rfl⟩
   rw[hDe]
   refine AW.loopN (α:=Nat×Nat×List V) (fun x=>sl 91 [(5,.h (nx+2+2) 0 os.length),(9,.h x.2.1 0 x.2.2.length),(10,.i .i64 x.1)]) (fun x=>upd (upd noH (nx+2+2) (some (tbl os.length D))) x.2.1 (some (x.2.2.map (vi os.length)))) (fun x m=>(x.1≤os.length∧nx+2+2<x.2.1∧x.2.1<m)∧x.2.2=outS D x.1) (fun x=>os.length-x.1) ((0,m+2,[])) ?_ ?_ (by intro d cs hd;simp only[upd,noH,List.map_nil]at hd ⊢;grind) ?_
   ·exact⟨⟨by omega,by first|omega|(simp only;omega)|(dsimp only;omega),by first|omega|(simp only;omega)|(dsimp only;omega)⟩,rfl⟩
   ·simp(disch:=omega) [wks,wkA,sl]
   ·skip
    rintro⟨q,id,K⟩ m3 ⟨⟨hq,hid,hid3⟩,hK⟩
    dsimp only at hq hid hid3 hK ⊢
    refine AW.seq (fun N9 hN9=> ?_)
    refine AW.sr envOk (fun N hN=> ?_)
    simp-dsimp-implicitDefEqProofs (disch:=omega) only[go_sem,undef,prs,prsP,w64,vi]
    refine hN _ ?_
    try clear hN N
    refine AW.cond rfl (fun h6=> ?_) (fun h6=> ?_)
    ·try simp only[cn]at h6
     have hKl:K.length≤6:=by have:=outS_len (dn:=D) (k:=q);rw[hK];omega
     refine AW.skip ?_
     simp only[thn,blk]
     refine hN9 _ ?_
     try clear hN9 N9
     refine AW.seq (fun N10 hN10=> ?_)
     refine AW.block ?_
     refine AW.sr envOk (fun N hN=> ?_)
     simp-dsimp-implicitDefEqProofs (disch:=omega) only[go_sem,undef,prs,prsP,w64,vi]
     refine hN _ ?_
     try clear hN N
     refine AW.cond rfl (fun h7=> ?_) (fun h7=> ?_)
     ·try simp only[cn]at h7
      obtain⟨z,hz,hzv⟩:=tkl_p (n:=os.length) (o:=D q) (by omega)
      refine AW.regionL envOk ?_
      simp-dsimp-implicitDefEqProofs (disch:=omega) only[go_sem,undef,prs,prsP,w64,vi,hzv]
      refine hN10 _ ?_
      try clear hN10 N10
      refine AW.regionL envOk ?_
      simp-dsimp-implicitDefEqProofs (disch:=omega) only[go_sem,undef,prs,prsP,w64,vi]
      refine⟨(q+1,m3+4+6+6,K++[z]),?_,(by intro d cs hd;simp only[upd,noH,tk_map,List.map_append,List.map_cons,List.map_nil,vi]at hd ⊢;grind),?_,?_⟩
      ·simp(disch:=omega) [wks,wkA,sl,w64]
      ·exact⟨⟨by omega,by first|omega|(simp only;omega)|(dsimp only;omega),by first|omega|(simp only;omega)|(dsimp only;omega)⟩,by (try simp only[]);rw[outS_some hz,hK]⟩
      ·first|omega|(simp only;omega)
     ·try simp only[cn]at h7
      have hz:D q=none:=tkl_z (n:=os.length) (by omega) (by omega)
      refine AW.skip ?_
      simp only[thn,blk]
      refine hN10 _ ?_
      try clear hN10 N10
      refine AW.regionL envOk ?_
      simp-dsimp-implicitDefEqProofs (disch:=omega) only[go_sem,undef,prs,prsP,w64,vi]
      refine⟨(q+1,id,K),?_,fun _ _ h=>h,?_,?_⟩
      ·simp(disch:=omega) [wks,wkA,sl,w64]
      ·exact⟨⟨by omega,by first|omega|(simp only;omega)|(dsimp only;omega),by first|omega|(simp only;omega)|(dsimp only;omega)⟩,by (try simp only[]);rw[outS_none hz,hK]⟩
      ·first|omega|(simp only;omega)
    ·try simp only[cn]at h6
     refine AW.exit ?_
     simp only[thn,blk,if_true]
     refine hN8 _ ?_
     try clear hN8 N8
     refine AW.sr envOk (fun N hN=> ?_)
     simp-dsimp-implicitDefEqProofs (disch:=omega) only[go_sem,undef,prs,prsP,w64,vi]
     refine hN _ ?_
     try clear hN N
     refine AW.ret ?_
     simp-dsimp-implicitDefEqProofs (disch:=omega) only[go_sem,undef]
     have hfin:outS D os.length=K:=by rw[hK,show q=os.length by omega]
     rw[hDe,hfin]
     exact⟨_,le_noS,id,rfl,by omega,by omega,rfl⟩
end
end Go.Proofs.YtnlfbimjcabgiaaGreat
