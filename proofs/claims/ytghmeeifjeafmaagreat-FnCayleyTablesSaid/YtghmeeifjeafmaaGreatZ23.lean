import Derived.Test.YtghmeeifjeafmaaGreatZ22
set_option linter.unusedVariables false
set_option linter.unusedSimpArgs false
namespace Go.Proofs.YtghmeeifjeafmaaGreat
noncomputable def Uc(P:Pc)(x w:V):V:=if x (F1 P.n w)=0 then x else WC P (F1 P.n w) w x
noncomputable def lR(P:Pc)(us:List V)(x:V):V:=us.foldl (Uc P) x
theorem lS{P:Pc}{dn:Nat→Option V}(hd:∀e w,dn e=some w→F1 P.n w=e):∀f e x,dD (WC P) dn f e x=lR P ((List.range' e f).filterMap dn) x:=by
  intro f;induction f with
  |zero=>intro e x;rfl
  | succ f ih=>
    intro e x;rw[dD,ih,List.range'_succ];cases h:dn e with
    |none=>rw[List.filterMap_cons_none h]
    | some w=>
      rw[List.filterMap_cons_some h];unfold lR;rw[List.foldl_cons];unfold Uc;rw[hd e w h]
theorem yK{P:Pc}{dn:Nat→Option V}(hd:∀e w,dn e=some w→F1 P.n w=e)(x:V):dD (WC P) dn P.n 0 x=lR P (DK dn P.n) x:=by
  rw[lS hd];unfold DK;rw[List.range_eq_range']
theorem yL{rd:Nat→V→V→V}{dn:Nat→Option V}{f:Nat}:∀k e x,(∀i,e≤i→i<e+k→dn i=none)→dD rd dn (f+k) e x=dD rd dn f (e+k) x:=by
  intro k;induction k with
  |zero=>intro e x _;rfl
  | succ k ih=>
    intro e x h;rw[←Nat.add_assoc,dD,h e (Nat.le_refl _) (by omega)];show dD rd dn (f+k) (e+1) x=_
    rw[ih (e+1) x (fun i h1 h2=>h i (by omega) (by omega)),show e+1+k=e+(k+1) by omega]
theorem eY{dn:Nat→Option V}{d:Nat}{x:V}(h0:∀e,e≤d→dn e=none):∀k,(k≤d→DK dn k=[])∧(k≤d→DK (fun e=>if e=d then some x else dn e) k=[])∧(d<k→DK (fun e=>if e=d then some x else dn e) k=x::DK dn k):=by
  intro k;induction k with
  |zero=>exact⟨fun _=>rfl,fun _=>rfl,fun h=>by omega⟩
  | succ k ih=>
    obtain⟨i1,i2,i3⟩:=ih;refine⟨fun h=>?_,fun h=>?_,fun h=>?_⟩
    · rw[DR (h0 k (by omega))];exact i1 (by omega)
    · rw[DR (by rw[if_neg (by omega)];exact h0 k (by omega))];exact i2 (by omega)
    by_cases e:k=d
    · subst e;rw[ER (y:=x) (by rw[if_pos rfl]),i2 (Nat.le_refl _),DR (h0 k (Nat.le_refl _)),i1 (Nat.le_refl _)];rfl
    cases hk:dn k with
    | none=>
      rw[DR (by rw[if_neg e];exact hk),DR hk];exact i3 (by omega)
    | some y=>
      rw[ER (y:=y) (by rw[if_neg e];exact hk),ER hk,i3 (by omega)];rfl
theorem yM{P:Pc}(hv:F9 P)(hc:DI P 0){d:Nat}(hd:d<P.n){w e:V}(hw:T P d w)(h1:w d=1)(he:T P 0 e){q:Nat}(hq:q≤(P.o d-e d).toNat):
    M P 0 e (rep (M P 0) w q) d=(e d+q)%P.o d:=by
  have l:=lvl hv hc;rw[(Ip hv hc hd he ((l.g d).rep hw q)).2,l.EL hd hw h1,Int.add_emod_emod]
section
variable(os:List Int)(pw:List (List Int))(cj:List (List (List Int)))
set_option maxHeartbeats 1000000 in
theorem FN(h:AI os pw cj)(hc:DI (pc os pw cj) 0)(us:List V)(hl:us.length≤6)(hu:∀k,k<us.length→F1 os.length (us.getD k z0)<os.length∧T (pc os pw cj) (F1 os.length (us.getD k z0)) (us.getD k z0)∧us.getD k z0 (F1 os.length (us.getD k z0))=1)(a:V)(ha:T (pc os pw cj) 0 a):W9 Tryz.prog 127 [A5 os pw cj,B2 os.length us,vi os.length a] (vi os.length (lR (pc os pw cj) us a)):=by
 have J4:=h.1.1
 have hv:=h.val
 have hg:=BO hv hc
 have p8:=(M7 os pw cj h 0 hc).1
 have LV:(pc os pw cj).n=os.length:=rfl
 have By:(lQ os.length us).length=us.length:=CO
 intro nx
 refine AC.AM A9 Tryz.func127 rfl (by kernel_rfl) Tryz.ntmps127 Tryz.results127 (fun cX=>?_)
 refine sQ fun N hN=>?_;simp-dsimp-implicitDefEqProofs(maxSteps:=800000) (disch:=omega)only[go_sem,A5,vi,B2,ints,A6,CO,DN];apply hN;refine sQ fun N hN=>?_;simp-dsimp-implicitDefEqProofs(maxSteps:=800000) (disch:=omega)only[go_sem,A5,vi,B2,ints,A6,CO,DN];refine(UI a (by omega) _ _).mono ?_
 rintro m1 H1 r1 (⟨XO,rfl,g1,g2,rfl⟩|⟨h0,rfl,rfl⟩)
 ·skip
  try simp-dsimp-implicitDefEqProofs(maxSteps:=800000) (disch:=omega)only[go_sem,A5,vi,B2,ints]
  apply hN;refine AW.seq fun N1 BC=>?_;refine sQ fun N hN=>?_;simp-dsimp-implicitDefEqProofs(maxSteps:=800000) (disch:=omega)only[go_sem,A5,vi,B2,ints,A6,CO,DN];refine AC.pure (.of (JB os.length J4 us (by omega) (fun k hk=>(hu k hk).1))) ?_
  try simp-dsimp-implicitDefEqProofs(maxSteps:=800000) (disch:=omega)only[go_sem,A5,vi,B2,ints,A6,CO,DN]
  apply hN;apply AW.block;refine AW.AF (α:=Nat×V) (fun x=>sl 34 [(0,A5 os pw cj),(1,B2 os.length us),(7,.h XO 0 os.length),(13,ints (lQ os.length us)),(14,.i .i64 us.length),(15,.i .i64 x.1)]) (fun x=>AU BN XO (some (DM os.length x.2))) (fun x m=>(x.1≤us.length∧nx≤XO∧XO<m)∧T (pc os pw cj) 0 x.2∧lR (pc os pw cj) (us.drop x.1) x.2=lR (pc os pw cj) us a) (fun x=>us.length-x.1) ((0,a)) ?_ ?_ (fun _ _ h=>h) ?_
  ·exact⟨⟨Nat.zero_le _,by first|omega|(dsimp only;omega),by first|omega|(dsimp only;omega)⟩,ha,rfl⟩
  ·simp(disch:=omega) [AO,AQ,sl,A5,ints,rows,A4,vi,B2,CO]
  skip
  rintro⟨k,e⟩ m ⟨⟨hk,pZ,hm⟩,he,hI⟩;dsimp only at hk pZ hm he hI ⊢;simp only[A5,B2];simp-dsimp-implicitDefEqProofs(maxSteps:=800000) (disch:=omega)only[go_sem];refine sQ fun N hN=>?_;simp-dsimp-implicitDefEqProofs(maxSteps:=800000) (disch:=omega)only[go_sem,A5,vi,B2,ints,A6,CO,DN];apply hN;refine AW.seq fun N2 BM=>?_;refine AW.cond rfl ?_ ?_<;>intro h1
  ·try simp only[cn]at h1
   obtain⟨w,hw⟩:∃w,us.getD k z0=w:=⟨_,rfl⟩;obtain⟨d,hd⟩:∃d,F1 os.length w=d:=⟨_,rfl⟩;obtain⟨w1,w2,w3⟩:=hu k (by omega);rw[hw,hd]at w1 w2 w3;have hwd:F1 os.length (us.getD k z0)=d:=by rw[hw,hd]
   have Z7:=w2.mono hv (Nat.zero_le d);have her:=he.r d (Nat.zero_le d) (show d<os.length by omega);have huo:=D0 (h.2.1 d w1);have lN:(pc os pw cj).o d=os.getD d 0:=rfl;have u9:us.drop k=w::us.drop (k+1):=by
    rw[←hw,List.getD_eq_getElem?_getD,List.getElem?_eq_getElem (by omega)];exact List.drop_eq_getElem_cons (by omega)
   have EM:lR (pc os pw cj) (us.drop k) e=lR (pc os pw cj) (us.drop (k+1)) (Uc (pc os pw cj) e w):=by rw[u9];rfl
   have A1Q:Uc (pc os pw cj) e w=if e d=0 then e else WC (pc os pw cj) d w e:=by unfold Uc;rw[LV,hd]
   have A1R:=fun q hq=>yM hv hc (e:=e) (show d<(pc os pw cj).n from w1) w2 w3 he (q:=q) hq
   apply AW.skip;apply BM;refine AW.seq fun N3 BQ=>?_;apply AW.block;refine sQ fun N hN=>?_;simp-dsimp-implicitDefEqProofs(maxSteps:=800000) (disch:=omega)only[go_sem,A5,vi,B2,ints,A6,CO,DN,hwd];apply hN;apply AW.block;refine AW.AF (α:=Nat×V) (fun x=>sl 34 [(0,A5 os pw cj),(1,B2 os.length us),(7,.h XO 0 os.length),(8,.i .i64 k),(9,.i .i64 d),(13,ints (lQ os.length us)),(14,.i .i64 us.length),(15,.i .i64 k)]) (fun x=>AU BN XO (some (DM os.length x.2))) (fun x m=>(x.1≤(os.getD d 0-e d).toNat∧XO<m)∧(e d=0→x.1=0)∧x.2=M (pc os pw cj) 0 e (rep (M (pc os pw cj) 0) w x.1)) (fun x=>(os.getD d 0-e d).toNat-x.1) ((0,e)) ?_ ?_ (fun _ _ h=>h) ?_
   ·exact⟨⟨Nat.zero_le _,by first|omega|(dsimp only;omega)⟩,fun _=>rfl,(hg.r1 he).symm⟩
   ·simp(disch:=omega) [AO,AQ,sl,A5,ints,rows,A4,vi,B2,CO]
   skip
   rintro⟨q,e2⟩ m2 ⟨⟨hq,TI⟩,QL,P6⟩;dsimp only at hq TI QL P6 ⊢;simp only[A5,B2];simp-dsimp-implicitDefEqProofs(maxSteps:=800000) (disch:=omega)only[go_sem];have Bz:=A1R q hq;rw[←P6,lN]at Bz;have qY:T (pc os pw cj) 0 e2:=by rw[P6];exact hg.cl he (hg.rep Z7 q)
   refine AW.seq fun N4 CG=>?_;refine sQ fun N hN=>?_;simp-dsimp-implicitDefEqProofs(maxSteps:=800000) (disch:=omega)only[go_sem,A5,vi,B2,ints,A6,CO,DN];apply hN;refine AW.cond rfl ?_ ?_<;>intro h2
   ·(try simp only[cn]at h2);have AL:e d≠0:=fun h0=>by
     rw[QL h0,h0]at Bz;simp at Bz;exact h2 Bz
    have BW:q+1≤(os.getD d 0-e d).toNat:=by
     apply Classical.byContradiction;intro hn;have:e d+(q:Int)=os.getD d 0:=by omega
     rw[this,Int.emod_self]at Bz;exact h2 Bz
    apply AW.skip;apply CG;apply AW.block;apply rQ;simp-dsimp-implicitDefEqProofs(maxSteps:=800000) (disch:=omega)only[go_sem,A5,vi,B2,ints,A6,CO,DN,PY,hw];refine(p8 _ _ XO e2 w (A1 _ _ _) qY Z7).AG ?_;rintro m3 H3 r3 S9 rfl;rw[UE hv qY Z7];try simp-dsimp-implicitDefEqProofs(maxSteps:=800000) (disch:=omega)only[go_sem,A5,vi,B2,ints,A6,CO,DN]
    refine⟨(q+1,M (pc os pw cj) 0 e2 w),?_,fun _ _ h=>h,?_,?_⟩
    ·simp(disch:=omega) [AO,AQ,sl,A5,AJ,ints,rows,A4,vi,B2]<;>omega
    ·have g3:M (pc os pw cj) 0 e2 w=M (pc os pw cj) 0 e (rep (M (pc os pw cj) 0) w (q+1)):=by rw[P6,hg.ac he (hg.rep Z7 q) Z7];rfl
     first|exact g3|exact⟨fun h0=>absurd h0 AL,g3⟩|exact⟨⟨by first|omega|(dsimp only;omega),by first|omega|(dsimp only;omega)⟩,fun h0=>absurd h0 AL,g3⟩|exact⟨by first|omega|(dsimp only;omega),fun h0=>absurd h0 AL,g3⟩|exact⟨by first|omega|(dsimp only;omega),g3⟩
    first|omega|(simp only;omega)
   try simp only[cn]at h2
   apply AW.exit;apply BQ;apply rQ;simp-dsimp-implicitDefEqProofs(maxSteps:=800000) (disch:=omega)only[go_sem,A5,vi,B2,ints,A6,CO,DN];refine⟨(k+1,e2),?_,fun _ _ h=>h,?_,?_⟩
   ·simp(disch:=omega) [AO,AQ,sl,A5,AJ,ints,rows,A4,vi,B2]<;>omega
   ·have g3:lR (pc os pw cj) (us.drop (k+1)) e2=lR (pc os pw cj) us a:=by
     rw[←hI,EM,A1Q];congr 1
     by_cases h0:e d=0
     ·rw[if_pos h0,P6,QL h0];exact hg.r1 he
     rw[if_neg h0,P6];unfold WC;rw[lN];have hz:e2 d=0:=h2;rw[hz]at Bz;have Yu:q=(os.getD d 0-e d).toNat:=by
      apply Classical.byContradiction;intro hn;have BW:e d+(q:Int)<os.getD d 0:=by omega
      rw[Int.emod_eq_of_lt (by omega) BW]at Bz;omega
     rw[Yu]
    first|exact⟨⟨by first|omega|(dsimp only;omega),by first|omega|(dsimp only;omega),by first|omega|(dsimp only;omega)⟩,qY,g3⟩|exact⟨by first|omega|(dsimp only;omega),qY,g3⟩|exact⟨qY,g3⟩
   first|omega|(simp only;omega)
  try simp only[cn]at h1
  apply AW.exit;apply BC;refine sQ fun N hN=>?_;simp-dsimp-implicitDefEqProofs(maxSteps:=800000) (disch:=omega)only[go_sem,A5,vi,B2,ints,A6,CO,DN];apply hN;apply AW.ret;simp-dsimp-implicitDefEqProofs(maxSteps:=800000) (disch:=omega)only[go_sem];rw[show k=us.length by omega,List.drop_length]at hI
  have Sa:e=lR (pc os pw cj) us a:=hI;rw[←Sa];exact Own.vi (A1 _ _ _) (by omega) (by omega)
 skip
 try simp-dsimp-implicitDefEqProofs(maxSteps:=800000) (disch:=omega)only[go_sem,A5,vi,B2,ints]
 apply hN;refine AW.seq fun N5 DW=>?_;refine sQ fun N hN=>?_;simp-dsimp-implicitDefEqProofs(maxSteps:=800000) (disch:=omega)only[go_sem,A5,vi,B2,ints,A6,CO,DN];refine AC.pure (.of (JB os.length J4 us (by omega) (fun k hk=>(hu k hk).1))) ?_
 try simp-dsimp-implicitDefEqProofs(maxSteps:=800000) (disch:=omega)only[go_sem,A5,vi,B2,ints,A6,CO,DN]
 apply hN;apply AW.block;refine AW.AF (α:=Nat) (fun x=>sl 34 [(0,A5 os pw cj),(1,B2 os.length us),(7,.v 0 []),(13,ints (lQ os.length us)),(14,.i .i64 us.length),(15,.i .i64 0)]) (fun _=>BN) (fun x m=>True) (fun x=>0) (0) ?_ ?_ (fun _ _ h=>h) ?_
 ·trivial
 ·simp(disch:=omega) [AO,AQ,sl,A5,ints,rows,A4,vi,B2,CO]
 skip
 rintro k m hk
 simp only[A5,B2];simp-dsimp-implicitDefEqProofs(maxSteps:=800000) (disch:=omega)only[go_sem];have Aw:us.length=0:=by
  apply Classical.byContradiction;intro hn;have:=(hu 0 (by omega)).1;omega
 refine sQ fun N hN=>?_;simp-dsimp-implicitDefEqProofs(maxSteps:=800000) (disch:=omega)only[go_sem,A5,vi,B2,ints,A6,CO,DN];apply hN;refine AW.seq fun N6 HC=>?_;refine AW.cond rfl ?_ ?_<;>intro h3
 ·try simp only[cn]at h3
  exfalso;omega
 try simp only[cn]at h3
 apply AW.exit;apply DW;refine sQ fun N hN=>?_;simp-dsimp-implicitDefEqProofs(maxSteps:=800000) (disch:=omega)only[go_sem,A5,vi,B2,ints,A6,CO,DN];apply hN;apply AW.ret;simp-dsimp-implicitDefEqProofs(maxSteps:=800000) (disch:=omega)only[go_sem];exact Own.vi0 h0
theorem qZ(h:AI os pw cj)(hc:DI (pc os pw cj) 0){t:Nat→Option V}(hG:LN (pc os pw cj) t)(j:Nat)(hj:j≤os.length):∀d z,NN (WC (pc os pw cj)) t os.length j d=some z→os.length-j≤d∧d<os.length∧T (pc os pw cj) d z∧z d=1:=by
  have hv:=h.val;have l:=lvl hv hc;have:=(q9 hv hc (Z2 hv hc) (l.Yz 0) (t:=t) (fun d y hy=>⟨(hG d y hy).1,l.le (Nat.zero_le d) (hG d y hy).2.1,(hG d y hy).2⟩) j hj).1;intro d z hz;obtain⟨a1,a2,a3,a4,a5,_⟩:=this d z hz;exact⟨a1,a2,a4,a5⟩
theorem yN(h:AI os pw cj)(hc:DI (pc os pw cj) 0){t:Nat→Option V}(hG:LN (pc os pw cj) t)(j:Nat)(hj:j≤os.length):∀k,k<(DK (NN (WC (pc os pw cj)) t os.length j) os.length).length→F1 os.length ((DK (NN (WC (pc os pw cj)) t os.length j) os.length).getD k z0)<os.length∧T (pc os pw cj) (F1 os.length ((DK (NN (WC (pc os pw cj)) t os.length j) os.length).getD k z0)) ((DK (NN (WC (pc os pw cj)) t os.length j) os.length).getD k z0)∧(DK (NN (WC (pc os pw cj)) t os.length j) os.length).getD k z0 (F1 os.length ((DK (NN (WC (pc os pw cj)) t os.length j) os.length).getD k z0))=1:=by
  intro k hk;obtain⟨z,hz⟩:∃z,(DK (NN (WC (pc os pw cj)) t os.length j) os.length).getD k z0=z:=⟨_,rfl⟩;have hm:z∈DK (NN (WC (pc os pw cj)) t os.length j) os.length:=by rw[←hz,List.getD_eq_getElem?_getD,List.getElem?_eq_getElem hk];exact List.getElem_mem _
  obtain⟨d,hd⟩:=bH hm;obtain⟨a1,a2,a3,a4⟩:=qZ os pw cj h hc hG j hj d z hd;rw[hz,eV a2 a3 a4];exact⟨a2,a3,a4⟩
end
end Go.Proofs.YtghmeeifjeafmaaGreat
namespace Go.Proofs.YtghmeeifjeafmaaGreat
theorem jH{H G:HP}{nx b:Nat}{d:Option (List AV)}(C7:∀i,nx≤i→H i=none)(hG:∀i,i<nx→G i=H i):Le (AU H b d) (AU G b d):=by
  intro i e hi;by_cases hb:i=b
  · subst hb;rw[A1]at hi ⊢;exact hi
  rw[A0 _ _ hb]at hi ⊢;by_cases hn:i<nx
  · rw[hG i hn];exact hi
  rw[C7 i (by omega)]at hi;cases hi
theorem rA{H:HP}{id:Nat}{c:Option (List AV)}(h:H id=none):Le H (AU H id c):=by
  intro i e hi;by_cases hb:i=id
  · subst hb;rw[h]at hi;cases hi
  rw[A0 _ _ hb];exact hi
def OwZ(n nx nx':Nat)(H H':HP)(r:AV)(X:List V):Prop:=Bo n nx nx' H H' r X∨(X=[]∧r= .nl∧H'=H)
theorem AC.frL{P:Program}{f:FuncId}{nx n:Nat}{H:HP}{xs:List AV}{X:List V}(h:AC P f nx H xs (fun nx' H' r=>OwZ n nx nx' H H' r X)):AC P f nx H xs (fun _ H' r=>r=B2 n X∧H'=H):=by
  refine AC.C7 h.1 fun C7=>⟨h.1,fun L Av w us a b c=>(h.2 L Av w us a b c).mono fun e w' ⟨u,r,L',nx',H',h1,h2,h3,h4,h5,h6,h7,h8⟩=>?_⟩
  rcases h2 with ⟨id,rfl,i1,i2,rfl⟩|⟨rfl,rfl,rfl⟩
  · have g1:L7 (AU H id (some (X.map (vi n)))) (AU (AU H id (some (X.map (vi n)))) id none):=L7.del;have g2:Fz (AU H id (some (X.map (vi n)))) (AU (AU H id (some (X.map (vi n)))) id none) (.h id 0 X.length) (B2 n X):=Fz.D1 (A1 _ _ _) (by simp);have e2:AU (AU H id (some (X.map (vi n)))) id none=H:=by
      funext i
      by_cases q:i=id
      · subst q;rw[A1,C7 i i1]
      rw[A0 _ _ q,A0 _ _ q]
    rw[e2]at g1 g2;exact⟨u,_,L',nx',H,h1,⟨rfl,rfl⟩,h3,h4,h5,h6.fz g1,⟨h7.le,h7.os,h7.tape,h7.output,h7.size,h7.AD,fun b hb hl=>h7.old b hb (g1.lb hl)⟩,g2.sound h6 g1 h8⟩
  have g1:L7 H' H':=fun q CX hq=>⟨CX,hq,rfl,fun k x y h1 h2=>by rw[h1]at h2;cases h2;exact .refl _⟩
  exact⟨u,_,L',nx',H',h1,⟨rfl,rfl⟩,h3,h4,h5,h6,h7,(Fz.nl:Fz H' H' .nl (.v 0 [])).sound h6 g1 h8⟩
theorem AN:(∀z∈([]:List AV),one z=true)=True:=eq_true fun z hz=>by cases hz
theorem AR{n:Nat}{us:List V}:(∀z∈List.map (vi n) us,one z=true)=True:=eq_true fun z hz=>by
  obtain⟨a,_,rfl⟩:=List.mem_map.1 hz;rfl
theorem SJ{d:Nat}:((d+1:Nat):Int)-1=(d:Int):=by omega
section
variable(os:List Int)(pw:List (List Int))(cj:List (List (List Int)))
theorem NO(hn:os.length≤1000)(nx:Nat)(H:HP):AC Tryz.prog 80 nx H [A5 os pw cj] (fun nx' H' r=>∃ids HD,r= .q ids 0∧(nx≤HD∧nx≤ids∧ids<nx'∧HD<nx'∧ids≠HD)∧H'=AU (AU H HD (some (WE os.length (fun _=>none)))) ids (some [A5 os pw cj,.h HD 0 os.length])):=by
 refine AC.C2 A9 Tryz.func80 rfl (by kernel_rfl) Tryz.ntmps80 Tryz.results80 (fun C7 cX=>?_)
 refine sQ fun N hN=>?_;simp-dsimp-implicitDefEqProofs(maxSteps:=800000) (disch:=omega)only[go_sem,A5,vi,ints];apply hN;refine sQ fun N hN=>?_;simp-dsimp-implicitDefEqProofs(maxSteps:=800000) (disch:=omega)only[go_sem,A5,vi,ints];apply hN;apply AW.ret;simp-dsimp-implicitDefEqProofs(maxSteps:=800000) (disch:=omega)only[go_sem];rw[yI]
 exact⟨_,Le.refl _,_,_,rfl,⟨by omega,by omega,by omega,by omega,by omega⟩,rfl⟩
noncomputable def SK(P:Pc)(t:Nat→Option V)(r:Nat):List V:=DK (NN (WC P) t P.n (P.n-r)) P.n
theorem lT(h:AI os pw cj)(hc:DI (pc os pw cj) 0){t:Nat→Option V}(hG:LN (pc os pw cj) t){d:Nat}(hd:d<os.length):
    (t d=none→SK (pc os pw cj) t d=SK (pc os pw cj) t (d+1))∧(∀y,t d=some y→SK (pc os pw cj) t d=lR (pc os pw cj) (SK (pc os pw cj) t (d+1)) y::SK (pc os pw cj) t (d+1)):=by
  have LV:(pc os pw cj).n=os.length:=rfl;obtain⟨j,hj⟩:∃j,os.length-(d+1)=j:=⟨_,rfl⟩;have e1:os.length-d=j+1:=by omega
  have e2:os.length-1-j=d:=by omega
  have LK:=qZ os pw cj h hc hG j (by omega);obtain⟨D,hD⟩:∃D,NN (WC (pc os pw cj)) t os.length j=D:=⟨_,rfl⟩;unfold SK;rw[LV,e1,hj,NN,e2];rw[hD]at LK ⊢;refine⟨fun h0=>by rw[h0],fun y hy=>?_⟩;rw[hy];dsimp only;have CK:∀e,e≤d→D e=none:=fun e he=>by
    cases hq:D e with
    |none=>rfl
    |some z=>have:=(LK e z hq).1;omega
  rw[(eY CK os.length).2.2 hd];congr 1
  have h1:=yL (rd:=WC (pc os pw cj)) (dn:=D) (f:=j) (d+1) 0 y (fun i _ h2=>CK i (by omega));rw[Nat.zero_add,show j+(d+1)=os.length by omega]at h1;rw[show os.length-j=d+1 by omega,←h1];exact yK (P:=pc os pw cj) (fun e w he=>by
    obtain⟨a1,a2,a3,a4⟩:=LK e w he;exact eV (P:=pc os pw cj) a2 a3 a4) y
theorem rB{t:Nat→Option V}:SK (pc os pw cj) t os.length=[]:=by
  unfold SK;have LV:(pc os pw cj).n=os.length:=rfl;rw[LV,Nat.sub_self];have:∀k,DK (NN (WC (pc os pw cj)) t os.length 0) k=[]:=by
    intro k;induction k with
    |zero=>rfl
    |succ k ih=>rw[DR (by rfl)];exact ih
  exact this _
set_option maxRecDepth 20000 in
set_option maxHeartbeats 1000000 in
theorem RF(h:AI os pw cj)(hc:DI (pc os pw cj) 0)(t:Nat→Option V)(hG:LN (pc os pw cj) t)(nx:Nat)(H:HP)(ids HD:Nat)(D2:H ids=some [A5 os pw cj,.h HD 0 os.length])(CR:H HD=some (WE os.length t)):AC Tryz.prog 82 nx H [.q ids 0] (fun nx' H' r=>OwZ os.length nx nx' H H' r (SK (pc os pw cj) t 0)):=by
 have J4:=h.1.1
 have hv:=h.val
 have EM:=fun d hd=>lT os pw cj h hc hG (d:=d) hd
 have hR:=fun r=>yN os pw cj h hc hG (os.length-r) (Nat.sub_le _ _)
 have hlen:=fun r=>PZ (dn:=NN (WC (pc os pw cj)) t os.length (os.length-r)) (k:=os.length)
 have Ud:=rB os pw cj (t:=t)
 obtain⟨W,hW⟩:∃W,SK (pc os pw cj) t=W:=⟨_,rfl⟩
 have hWe:∀r,DK (NN (WC (pc os pw cj)) t os.length (os.length-r)) os.length=W r:=fun r=>by rw[←hW];rfl
 simp only[hWe]at hR hlen
 rw[hW]at EM Ud
 refine AC.C2 A9 Tryz.func82 rfl (by kernel_rfl) Tryz.ntmps82 Tryz.results82 (fun C7 cX=>?_)
 have A1S:ids<nx:=by
  apply Classical.byContradiction;intro hn;rw[C7 ids (by omega)]at D2;cases D2
 have A1T:HD<nx:=by
  apply Classical.byContradiction;intro hn;rw[C7 HD (by omega)]at CR;cases CR
 refine sQ fun N hN=>?_;simp-dsimp-implicitDefEqProofs(maxSteps:=800000) (disch:=omega)only[go_sem,A5,vi,ints,A6,D2,CR,AH,AS,AE,B8,eq_self,SJ,Nat.add_sub_cancel,AN,AR,B1,Nat.min_self]
 apply hN;refine sQ fun N hN=>?_;simp-dsimp-implicitDefEqProofs(maxSteps:=800000) (disch:=omega)only[go_sem,A5,vi,ints,A6,D2,CR,AH,AS,AE,B8,eq_self,SJ,Nat.add_sub_cancel,AN,AR,B1,Nat.min_self]
 apply hN;refine AW.seq fun N1 BC=>?_;refine sQ fun N hN=>?_;simp-dsimp-implicitDefEqProofs(maxSteps:=800000) (disch:=omega)only[go_sem,A5,vi,ints,A6,D2,CR,AH,AS,AE,B8,eq_self,SJ,Nat.add_sub_cancel,AN,AR,B1,Nat.min_self]
 apply hN;apply AW.block;refine AW.AF (α:=Nat×Option Nat) (fun x=>sl 42 [(0,.q ids 0),(3,oA x.2 (W x.1).length),(4,.i .i64 ((x.1:Int)-1))]) (fun x=>oH H x.2 ((W x.1).map (vi os.length))) (fun x m=>(x.1≤os.length∧nx≤m)∧(x.2=none→W x.1=[])∧(∀id,x.2=some id→nx≤id∧id<m)) (fun x=>x.1) ((os.length,none)) ?_ ?_ (fun _ _ h=>h) ?_
 ·exact⟨⟨Nat.le_refl _,by first|omega|(dsimp only;omega)⟩,fun _=>Ud,fun id DA=>(by cases DA)⟩
 ·simp(disch:=omega) [AO,AQ,sl,oA,AJ]<;>omega
 skip
 rintro⟨r,(_|id)⟩ m ⟨⟨hr,hm⟩,mO,DA⟩
 all_goals dsimp only at hr hm mO DA
 all_goals by_cases hb:t (r-1)=none
 ·skip
  dsimp only[oA,oH];have Z7:=mO rfl;refine AW.seq fun N2 BM=>?_;refine sQ fun N hN=>?_;simp-dsimp-implicitDefEqProofs(maxSteps:=800000) (disch:=omega)only[go_sem,A5,vi,ints,A6,D2,CR,AH,AS,AE,B8,eq_self,SJ,Nat.add_sub_cancel,AN,AR,B1,Nat.min_self]
  apply hN;refine AW.cond rfl ?_ ?_<;>intro h1
  ·try simp only[cn]at h1
   obtain⟨d,rfl⟩:∃d,r=d+1:=⟨r-1,by omega⟩;simp only[Nat.add_sub_cancel]at hb;have RV:=Q1 hb;have hs:=(EM d (by omega)).1 hb;apply AW.skip;apply BM;refine AW.seq fun N3 BQ=>?_;apply AW.block;refine sQ fun N hN=>?_;simp-dsimp-implicitDefEqProofs(maxSteps:=800000) (disch:=omega)only[go_sem,A5,vi,ints,A6,D2,CR,AH,AS,AE,B8,eq_self,SJ,Nat.add_sub_cancel,AN,AR,B1,Nat.min_self]
   apply hN;refine AW.cond rfl ?_ ?_<;>intro h2
   ·(try simp only[cn]at h2);first|done|(cases h2)|(exact absurd h2 (by simp))
   try simp only[cn]at h2
   apply AW.skip;apply BQ;apply rQ;simp-dsimp-implicitDefEqProofs(maxSteps:=800000) (disch:=omega)only[go_sem,A5,vi,ints,A6,D2,CR,AH,AS,AE,B8,eq_self,SJ,Nat.add_sub_cancel,AN,AR,B1,Nat.min_self];refine⟨(d,none),?_,fun _ _ h=>h,?_,?_⟩
   ·simp(disch:=omega) [AO,AQ,sl,oA,AJ,hs,Z7,Nat.add_comm]<;>omega
   ·exact⟨⟨by first|omega|(dsimp only;omega),by first|omega|(dsimp only;omega)⟩,fun _=>by dsimp only;rw[hs];exact Z7,fun id DA=>(by cases DA)⟩
   first|omega|(simp only;omega)
  try simp only[cn]at h1
  apply AW.exit;apply BC;obtain rfl:r=0:=by omega
  refine sQ fun N hN=>?_;simp-dsimp-implicitDefEqProofs(maxSteps:=800000) (disch:=omega)only[go_sem,A5,vi,ints,A6,D2,CR,AH,AS,AE,B8,eq_self,SJ,Nat.add_sub_cancel,AN,AR,B1,Nat.min_self]
  apply hN;apply AW.ret;simp-dsimp-implicitDefEqProofs(maxSteps:=800000) (disch:=omega)only[go_sem];rw[hW];exact⟨H,Le.refl _,.inr ⟨Z7,rfl,rfl⟩⟩
 ·skip
  dsimp only[oA,oH];have Z7:=mO rfl;refine AW.seq fun N4 CG=>?_;refine sQ fun N hN=>?_;simp-dsimp-implicitDefEqProofs(maxSteps:=800000) (disch:=omega)only[go_sem,A5,vi,ints,A6,D2,CR,AH,AS,AE,B8,eq_self,SJ,Nat.add_sub_cancel,AN,AR,B1,Nat.min_self]
  apply hN;refine AW.cond rfl ?_ ?_<;>intro h3
  ·try simp only[cn]at h3
   obtain⟨d,rfl⟩:∃d,r=d+1:=⟨r-1,by omega⟩;simp only[Nat.add_sub_cancel]at hb;obtain⟨RV,hy⟩:=Q2 hb;obtain⟨y,Bx⟩:∃y,(t d).getD z0=y:=⟨_,rfl⟩;rw[Bx]at hy;have hs:=(EM d (by omega)).2 y hy;have I4:=(hG d y hy).2.1.mono hv (Nat.zero_le d);apply AW.skip;apply CG;refine AW.seq fun N5 DW=>?_;apply AW.block;refine sQ fun N hN=>?_;simp-dsimp-implicitDefEqProofs(maxSteps:=800000) (disch:=omega)only[go_sem,A5,vi,ints,A6,D2,CR,AH,AS,AE,B8,eq_self,SJ,Nat.add_sub_cancel,AN,AR,B1,Nat.min_self]
   apply hN;refine AW.cond rfl ?_ ?_<;>intro h4
   ·(try simp only[cn]at h4);refine AW.seq fun N hN=>?_;refine AW.BI A9 (by kernel_rfl) 12 (by kernel_rfl) ?_
    simp-dsimp-implicitDefEqProofs(maxSteps:=800000) (disch:=omega)only[B3,B4,BH,List.take_succ_cons,List.take_zero,List.drop_succ_cons,List.drop_zero,List.take_nil,List.drop_nil,go_sem,undef,A5,AJ,vi,ints,A6,D2,CR,AH,AS,AE,B8,eq_self,SJ,Nat.add_sub_cancel,AN,AR,B1,Nat.min_self,Bx];refine((FN os pw cj h hc [] (by simp) (fun k hk=>absurd hk (by simp)) y I4).vi (.cons (.refl _) (.cons .nl (.cons (.refl _) .nil)))).AG ?_;rintro m1 H1 r1 MW ⟨rfl,rfl⟩;have XQ:W d=[lR (pc os pw cj) [] y]:=by rw[hs,Z7]
    (try simp-dsimp-implicitDefEqProofs(maxSteps:=800000) (disch:=omega)only[go_sem,A5,vi,ints,A6,D2,CR,AH,AS,AE,B8,eq_self,SJ,Nat.add_sub_cancel,AN,AR,B1,Nat.min_self]);apply hN;apply rQ;simp-dsimp-implicitDefEqProofs(maxSteps:=800000) (disch:=omega)only[go_sem,A5,vi,ints,A6,D2,CR,AH,AS,AE,B8,eq_self,SJ,Nat.add_sub_cancel,AN,AR,B1,Nat.min_self];apply DW;apply rQ;simp-dsimp-implicitDefEqProofs(maxSteps:=800000) (disch:=omega)only[go_sem,A5,vi,ints,A6,D2,CR,AH,AS,AE,B8,eq_self,SJ,Nat.add_sub_cancel,AN,AR,B1,Nat.min_self];refine⟨(d,some (m1+3)),?_,(by dsimp only[oH];rw[XQ];exact jH C7 (fun i hi=>by simp(disch:=omega)only[A0])),?_,?_⟩
    ·simp(disch:=omega) [AO,AQ,sl,oA,AJ,hs,Z7,Nat.add_comm]<;>omega
    ·exact⟨⟨by first|omega|(dsimp only;omega),by first|omega|(dsimp only;omega)⟩,fun hh=>(by cases hh),fun id DA=>(by cases DA;exact⟨by first|omega|(dsimp only;omega),by first|omega|(dsimp only;omega)⟩)⟩
    first|omega|(simp only;omega)
   try simp only[cn]at h4
   first|done|(cases h4)|(exact absurd h4 (by simp))
  try simp only[cn]at h3
  apply AW.exit;apply BC;obtain rfl:r=0:=by omega
  refine sQ fun N hN=>?_;simp-dsimp-implicitDefEqProofs(maxSteps:=800000) (disch:=omega)only[go_sem,A5,vi,ints,A6,D2,CR,AH,AS,AE,B8,eq_self,SJ,Nat.add_sub_cancel,AN,AR,B1,Nat.min_self]
  apply hN;apply AW.ret;simp-dsimp-implicitDefEqProofs(maxSteps:=800000) (disch:=omega)only[go_sem];rw[hW];exact⟨H,Le.refl _,.inr ⟨Z7,rfl,rfl⟩⟩
 ·skip
  dsimp only[oA,oH];obtain⟨i1,i2⟩:=DA id rfl;have Z7:=rfl (a:=0);refine AW.seq fun N6 HC=>?_;refine sQ fun N hN=>?_;simp-dsimp-implicitDefEqProofs(maxSteps:=800000) (disch:=omega)only[go_sem,A5,vi,ints,A6,D2,CR,AH,AS,AE,B8,eq_self,SJ,Nat.add_sub_cancel,AN,AR,B1,Nat.min_self]
  apply hN;refine AW.cond rfl ?_ ?_<;>intro h5
  ·try simp only[cn]at h5
   obtain⟨d,rfl⟩:∃d,r=d+1:=⟨r-1,by omega⟩;simp only[Nat.add_sub_cancel]at hb;have RV:=Q1 hb;have hs:=(EM d (by omega)).1 hb;apply AW.skip;apply HC;refine AW.seq fun N7 JO=>?_;apply AW.block;refine sQ fun N hN=>?_;simp-dsimp-implicitDefEqProofs(maxSteps:=800000) (disch:=omega)only[go_sem,A5,vi,ints,A6,D2,CR,AH,AS,AE,B8,eq_self,SJ,Nat.add_sub_cancel,AN,AR,B1,Nat.min_self]
   apply hN;refine AW.cond rfl ?_ ?_<;>intro h6
   ·(try simp only[cn]at h6);first|done|(cases h6)|(exact absurd h6 (by simp))
   try simp only[cn]at h6
   apply AW.skip;apply JO;apply rQ;simp-dsimp-implicitDefEqProofs(maxSteps:=800000) (disch:=omega)only[go_sem,A5,vi,ints,A6,D2,CR,AH,AS,AE,B8,eq_self,SJ,Nat.add_sub_cancel,AN,AR,B1,Nat.min_self];refine⟨(d,some id),?_,(by dsimp only[oH];rw[hs];exact Le.refl _),?_,?_⟩
   ·simp(disch:=omega) [AO,AQ,sl,oA,AJ,hs,Z7,Nat.add_comm]<;>omega
   ·exact⟨⟨by first|omega|(dsimp only;omega),by first|omega|(dsimp only;omega)⟩,fun hh=>(by cases hh),fun id' A1U=>(by cases A1U;exact⟨by first|omega|(dsimp only;omega),by first|omega|(dsimp only;omega)⟩)⟩
   first|omega|(simp only;omega)
  try simp only[cn]at h5
  apply AW.exit;apply BC;obtain rfl:r=0:=by omega
  refine sQ fun N hN=>?_;simp-dsimp-implicitDefEqProofs(maxSteps:=800000) (disch:=omega)only[go_sem,A5,vi,ints,A6,D2,CR,AH,AS,AE,B8,eq_self,SJ,Nat.add_sub_cancel,AN,AR,B1,Nat.min_self]
  apply hN;apply AW.ret;simp-dsimp-implicitDefEqProofs(maxSteps:=800000) (disch:=omega)only[go_sem];rw[hW];exact⟨_,Le.refl _,.inl ⟨id,rfl,i1,by omega,rfl⟩⟩
 skip
 dsimp only[oA,oH]
 obtain⟨i1,i2⟩:=DA id rfl
 have Z7:=rfl (a:=0)
 refine AW.seq fun N8 JJ=>?_;refine sQ fun N hN=>?_;simp-dsimp-implicitDefEqProofs(maxSteps:=800000) (disch:=omega)only[go_sem,A5,vi,ints,A6,D2,CR,AH,AS,AE,B8,eq_self,SJ,Nat.add_sub_cancel,AN,AR,B1,Nat.min_self]
 apply hN;refine AW.cond rfl ?_ ?_<;>intro h7
 ·try simp only[cn]at h7
  obtain⟨d,rfl⟩:∃d,r=d+1:=⟨r-1,by omega⟩;simp only[Nat.add_sub_cancel]at hb;obtain⟨RV,hy⟩:=Q2 hb;obtain⟨y,Bx⟩:∃y,(t d).getD z0=y:=⟨_,rfl⟩;rw[Bx]at hy;have hs:=(EM d (by omega)).2 y hy;have I4:=(hG d y hy).2.1.mono hv (Nat.zero_le d);have Zi:=hlen (d+1);apply AW.skip;apply JJ;refine AW.seq fun N9 M6=>?_;apply AW.block;refine sQ fun N hN=>?_;simp-dsimp-implicitDefEqProofs(maxSteps:=800000) (disch:=omega)only[go_sem,A5,vi,ints,A6,D2,CR,AH,AS,AE,B8,eq_self,SJ,Nat.add_sub_cancel,AN,AR,B1,Nat.min_self]
  apply hN;refine AW.cond rfl ?_ ?_<;>intro h8
  ·try simp only[cn]at h8
   refine AW.seq fun N hN=>?_;refine AW.BI A9 (by kernel_rfl) 12 (by kernel_rfl) ?_
   simp-dsimp-implicitDefEqProofs(maxSteps:=800000) (disch:=omega)only[B3,B4,BH,List.take_succ_cons,List.take_zero,List.drop_succ_cons,List.drop_zero,List.take_nil,List.drop_nil,go_sem,undef,A5,AJ,vi,ints,A6,D2,CR,AH,AS,AE,B8,eq_self,SJ,Nat.add_sub_cancel,AN,AR,B1,Nat.min_self,Bx];refine((FN os pw cj h hc (W (d+1)) (by omega) (fun k hk=>hR (d+1) k hk) y I4).vi (.cons (.refl _) (.cons (Vw.D1 (A1 _ _ _) (List.length_map _).symm) (.cons (.refl _) .nil)))).AG ?_;rintro m1 H1 r1 MW ⟨rfl,rfl⟩;try simp-dsimp-implicitDefEqProofs(maxSteps:=800000) (disch:=omega)only[go_sem,A5,vi,ints,A6,D2,CR,AH,AS,AE,B8,eq_self,SJ,Nat.add_sub_cancel,AN,AR,B1,Nat.min_self]
   apply hN;apply rQ;simp-dsimp-implicitDefEqProofs(maxSteps:=800000) (disch:=omega)only[go_sem,A5,vi,ints,A6,D2,CR,AH,AS,AE,B8,eq_self,SJ,Nat.add_sub_cancel,AN,AR,B1,Nat.min_self];apply M6;apply rQ;simp-dsimp-implicitDefEqProofs(maxSteps:=800000) (disch:=omega)only[go_sem,A5,vi,ints,A6,D2,CR,AH,AS,AE,B8,eq_self,SJ,Nat.add_sub_cancel,AN,AR,B1,Nat.min_self];refine⟨(d,some (m1+3)),?_,(by dsimp only[oH];rw[hs];exact jH C7 (fun i hi=>by simp(disch:=omega)only[A0])),?_,?_⟩
   ·simp(disch:=omega) [AO,AQ,sl,oA,AJ,hs,Z7,Nat.add_comm]<;>omega
   ·exact⟨⟨by first|omega|(dsimp only;omega),by first|omega|(dsimp only;omega)⟩,fun hh=>(by cases hh),fun id DA=>(by cases DA;exact⟨by first|omega|(dsimp only;omega),by first|omega|(dsimp only;omega)⟩)⟩
   first|omega|(simp only;omega)
  try simp only[cn]at h8
  first|done|(cases h8)|(exact absurd h8 (by simp))
 try simp only[cn]at h7
 apply AW.exit;apply BC;obtain rfl:r=0:=by omega
 refine sQ fun N hN=>?_;simp-dsimp-implicitDefEqProofs(maxSteps:=800000) (disch:=omega)only[go_sem,A5,vi,ints,A6,D2,CR,AH,AS,AE,B8,eq_self,SJ,Nat.add_sub_cancel,AN,AR,B1,Nat.min_self]
 apply hN;apply AW.ret;simp-dsimp-implicitDefEqProofs(maxSteps:=800000) (disch:=omega)only[go_sem];rw[hW];exact⟨_,Le.refl _,.inl ⟨id,rfl,i1,by omega,rfl⟩⟩
theorem Q3(h:AI os pw cj)(hc:DI (pc os pw cj) 0)(t:Nat→Option V)(hG:LN (pc os pw cj) t)(nx:Nat)(H:HP)(ids HD:Nat)(D2:H ids=some [A5 os pw cj,.h HD 0 os.length])(CR:H HD=some (WE os.length t)):AC Tryz.prog 82 nx H [.q ids 0] (fun _ H' r=>r=B2 os.length (SK (pc os pw cj) t 0)∧H'=H):=
  (RF os pw cj h hc t hG nx H ids HD D2 CR).frL
end
end Go.Proofs.YtghmeeifjeafmaaGreat
