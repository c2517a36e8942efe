import Derived.Test.YtghmeeifjeafmaaGreatZ15
import Derived.Test.YtghmeeifjeafmaaGreatZ16
set_option linter.unusedVariables false
set_option linter.unusedSimpArgs false
namespace Go.Proofs.YtghmeeifjeafmaaGreat
section
variable(os:List Int)(pw:List (List Int))(cj:List (List (List Int)))
theorem SF(h:AI os pw cj)(hc:DI (pc os pw cj) 0)(t:Nat→Option V)(ht:Ic (pc os pw cj) t)(a:V)(hx:T (pc os pw cj) 0 a)(nx:Nat)(H:HP)(tid:Nat)(hH:H tid=some (TL os.length t)):AC Tryz.prog 89 nx H [A8 os pw cj,.h tid 0 os.length,vi os.length a] (fun nx' H' r=>r=Si os.length (EB (pc os pw cj) t os.length 0 a)∧H'=H):=by
 have J4:=h.1.1
 have hv:=h.val
 refine AC.C2 A9 Tryz.func89 rfl (by kernel_rfl) Tryz.ntmps89 Tryz.results89 (fun C7 cX=>?_)
 refine sQ fun N hN=>?_;simp-dsimp-implicitDefEqProofs(disch:=omega)only[go_sem,A8,A5,vi,hH];apply hN;refine AW.B5 3 nx _ rfl (A1 _ _ _) ?_
 simp-dsimp-implicitDefEqProofs(disch:=omega)only[go_sem];refine sQ fun N hN=>?_;simp-dsimp-implicitDefEqProofs(disch:=omega)only[go_sem,A8,A5,vi,hH];refine AC.pure (.of (pQ os a (by omega))) ?_;try simp-dsimp-implicitDefEqProofs(disch:=omega)only[go_sem,A8,A5,vi,hH]
 apply hN;refine AW.seq fun N1 BC=>?_;refine sQ fun N hN=>?_;simp-dsimp-implicitDefEqProofs(disch:=omega)only[go_sem,A8,A5,vi,hH];apply hN;apply AW.block;refine AW.AF (α:=Nat×V) (fun x=>sl 48 [(1,.h tid 0 os.length),(3,A5 os pw cj),(8,vi os.length x.2),(9,.i .i64 x.1)]) (fun _=>H) (fun x m=>(x.1≤os.length∧T (pc os pw cj) 0 x.2)∧EB (pc os pw cj) t (os.length-x.1) x.1 x.2=EB (pc os pw cj) t os.length 0 a) (fun x=>os.length-x.1) ((0,a)) ?_ ?_ (by intro d cs hd;(try simp only[AU]);have Yt:=C7 nx (Nat.le_refl _);by_cases e:d=nx;(subst e;rw[Yt]at hd;cases hd);(simp only[e,if_false];exact hd)) ?_
 ·exact⟨⟨by omega,hx⟩,rfl⟩
 ·simp(disch:=omega) [AO,AQ,sl,A5,ints,rows,A4,vi]
 skip
 rintro⟨k,u⟩ m ⟨⟨hk,hu⟩,hI⟩
 dsimp only at hk hu hI ⊢
 simp only[vi,A5];simp-dsimp-implicitDefEqProofs(disch:=omega)only[go_sem];refine AW.seq fun N2 BM=>?_;refine sQ fun N hN=>?_;simp-dsimp-implicitDefEqProofs(disch:=omega)only[go_sem,A8,A5,vi,hH];apply hN;refine AW.cond rfl ?_ ?_<;>intro h1
 ·try simp only[cn]at h1
  have hs:EB (pc os pw cj) t (os.length-k) k u=if u k=0 then EB (pc os pw cj) t (os.length-(k+1)) (k+1) u else match t k with
    |none=>(k,u)
    |some y=>EB (pc os pw cj) t (os.length-(k+1)) (k+1) (M (pc os pw cj) 0 u (LL (pc os pw cj) y (0-u k))):=by
   obtain⟨q,hq⟩:∃q,os.length-k=q+1:=⟨os.length-k-1,by omega⟩;rw[hq,EB,show os.length-(k+1)=q by omega];cases t k<;>rfl
  have Ig:=hu.r k (by omega) (show k<os.length by omega);have huo:=D0 (h.2.1 k (by omega));have lN:(pc os pw cj).o k=os.getD k 0:=rfl;apply AW.skip;apply BM;refine AW.seq fun N3 BQ=>?_;apply AW.block;refine AW.seq fun N4 CG=>?_;refine sQ fun N hN=>?_;simp-dsimp-implicitDefEqProofs(disch:=omega)only[go_sem,A8,A5,vi,hH];apply hN;refine AW.cond rfl ?_ ?_<;>intro h2
  ·try simp only[cn]at h2
   apply AW.exit;apply BQ;apply rQ;simp-dsimp-implicitDefEqProofs(disch:=omega)only[go_sem,A8,A5,vi,hH];refine⟨(k+1,u),?_,fun _ _ h=>h,?_,?_⟩
   ·simp(disch:=omega) [AO,AQ,sl,AJ,ints,rows,A4,A8,A5,AJ,vi,hH]<;>omega
   ·exact⟨⟨by omega,hu⟩,by (try simp only[]);rw[←hI,hs,if_pos h2]⟩
   first|omega|(simp only;omega)
  try simp only[cn]at h2
  apply AW.skip;apply CG;refine AW.seq fun N5 DW=>?_;refine sQ fun N hN=>?_;simp-dsimp-implicitDefEqProofs(disch:=omega)only[go_sem,A8,A5,vi,hH];apply hN;refine AW.cond rfl ?_ ?_<;>intro h3
  ·try simp only[cn]at h3
   have hy:t k=none:=by
    cases hq:t k with
    |none=>rfl
    |some y=>rw[hq,pP]at h3;omega
   refine sQ fun N hN=>?_;simp-dsimp-implicitDefEqProofs(disch:=omega)only[go_sem,A8,A5,vi,hH];apply hN;apply AW.ret;simp-dsimp-implicitDefEqProofs(disch:=omega)only[go_sem];exact⟨_,fun _ _ h=>h,by rw[←hI,hs,if_neg h2,hy];rfl,rfl⟩
  try simp only[cn]at h3
  obtain⟨y,hy⟩:∃y,t k=some y:=by
   cases hq:t k with
   |none=>rw[hq,pP]at h3;exact absurd rfl h3
   |some y=>exact⟨y,rfl⟩
  have I4:=ht k y hy;have hyv:AV.v (pP os.length (t k)) (Mu os.length (t k))=vi os.length y:=by rw[hy];rfl
  have So:=bB hv hc I4 (0-u k);apply AW.skip;apply DW;refine AW.BI A9 (by kernel_rfl) 15 (by kernel_rfl) ?_;simp-dsimp-implicitDefEqProofs(disch:=omega)only[B3,B4,BH,List.take_succ_cons,List.take_zero,List.drop_succ_cons,List.drop_zero,List.take_nil,List.drop_nil,go_sem,undef,A8,A5,AJ,vi,hH];rw[hyv];refine⟨_,.of (FM os pw cj h hc y I4 (0-u k) (by omega)),?_⟩;try simp-dsimp-implicitDefEqProofs(disch:=omega)only[go_sem,A8,A5,vi,hH]
  refine⟨_,.of (D8 os pw cj h _ _ hu So),?_⟩;try simp-dsimp-implicitDefEqProofs(disch:=omega)only[go_sem,A8,A5,vi,hH]
  apply BQ;apply rQ;simp-dsimp-implicitDefEqProofs(disch:=omega)only[go_sem,A8,A5,vi,hH];refine⟨(k+1,M (pc os pw cj) 0 u (LL (pc os pw cj) y (0-u k))),?_,fun _ _ h=>h,?_,?_⟩
  ·simp(disch:=omega) [AO,AQ,sl,AJ,ints,rows,A4,A8,A5,AJ,vi,hH]<;>omega
  ·exact⟨⟨by omega,TF hv hu So⟩,by (try simp only[]);rw[←hI,hs,if_neg h2,hy]⟩
  first|omega|(simp only;omega)
 try simp only[cn]at h1
 apply AW.exit;apply BC;refine sQ fun N hN=>?_;simp-dsimp-implicitDefEqProofs(disch:=omega)only[go_sem,A8,A5,vi,hH];apply hN;apply AW.ret;simp-dsimp-implicitDefEqProofs(disch:=omega)only[go_sem];exact⟨_,fun _ _ h=>h,by rw[←hI,show os.length-k=0 by omega,EB,show k=os.length by omega];rfl,rfl⟩
end
end Go.Proofs.YtghmeeifjeafmaaGreat
namespace Go.Proofs.YtghmeeifjeafmaaGreat
section
variable{P:Pc}(hv:F9 P){d:Nat}
include hv
theorem YY(hd:d<P.n){a b:V}(ha:T P d a)(hb:T P d b):M P 0 a b d=(a d+b d)%P.o d:=by
  have h1:=ha.r d (Nat.le_refl _) hd;have h2:=hb.r d (Nat.le_refl _) hd;rw[RZ hv (Nat.zero_le d) ha hb,PN hd];unfold ZZ;split
  · rw[CM,←Int.sub_emod_right,Int.emod_eq_of_lt (by omega) (by omega)]
  rw[CM,Int.emod_eq_of_lt (by omega) (by omega)]
theorem Ih{a b:V}(ha:T P d a)(hb:T P d b):T P d (M P 0 a b):=by
  rw[RZ hv (Nat.zero_le d) ha hb];exact TF hv ha hb
theorem EL(hd:d<P.n){a:V}(ha:T P d a):∀k:Nat,T P d (rep (M P 0) a k)∧rep (M P 0) a k d=((k:Int)*a d)%P.o d:=by
  intro k;have h1:=ha.r d (Nat.le_refl _) hd;induction k with
  |zero=>exact⟨T.zero hv d,by simp[rep,CW,z0]⟩
  | succ k ih=>
    have hs:rep (M P 0) a (k+1)=M P 0 (rep (M P 0) a k) a:=rfl;refine⟨by rw[hs];exact Ih hv ih.1 ha,?_⟩;rw[hs,YY hv hd ih.1 ha,ih.2,Int.emod_add_emod,Int.natCast_succ,Int.add_mul,Int.one_mul]
theorem pU(hc:DI P 0){a:V}(ha:T P d a):T P d (inv P 0 a):=by
  have Sq:=BO hv hc;have Sr:=BO hv (hc.mono (Nat.zero_le d));obtain⟨h1,h2⟩:=DY Sr ha;have h3:inv P d a=inv P 0 a:=inv_eq Sq (ha.mono hv (Nat.zero_le d)) (h1.mono hv (Nat.zero_le d)) (by rw[RZ hv (Nat.zero_le d) ha h1];exact h2);rw[←h3];exact h1
theorem pW(hc:DI P 0)(hd:d<P.n){a:V}(ha:T P d a):(a d+inv P 0 a d)%P.o d=0:=by
  have Sq:=BO hv hc;have h2:=(DY Sq (ha.mono hv (Nat.zero_le d))).2;rw[←YY hv hd ha (pU hv hc ha),h2];rfl
theorem TM(hc:DI P 0)(hd:d<P.n){a:V}(ha:T P d a)(k:Int):T P d (LL P a k)∧LL P a k d=(k*a d)%P.o d:=by
  unfold LL;split
  · rename_i hk;obtain⟨h1,h2⟩:=EL hv hd (pU hv hc ha) (0-k).toNat;refine⟨h1,?_⟩;rw[h2,Int.toNat_of_nonneg (by omega)];have h3:=pW hv hc hd ha;rw[Int.emod_eq_emod_iff_emod_sub_eq_zero];rw[show(0-k)*inv P 0 a d-k*a d=(0-k)*(a d+inv P 0 a d) by rw[Int.mul_add,Int.sub_mul,Int.sub_mul,Int.zero_mul,Int.zero_mul];omega];rw[Int.mul_emod,h3,Int.mul_zero,Int.zero_emod]
  rename_i hk;obtain⟨h1,h2⟩:=EL hv hd ha k.toNat;refine⟨h1,?_⟩;rw[h2,Int.toNat_of_nonneg (by omega)]
theorem XR(hc:DI P 0)(hd:d<P.n){u y:V}(hu:T P d u)(hy:T P d y)(h1:y d=1):T P (d+1) (M P 0 u (LL P y (0-u d))):=by
  obtain⟨p1,p2⟩:=TM hv hc hd hy (0-u d);have hT:=Ih hv hu p1;have hl:=YY hv hd hu p1;rw[p2,h1,Int.mul_one,Int.add_emod_emod,show u d+(0-u d)=0 by omega,Int.zero_emod]at hl;refine⟨fun k hk=>?_,fun k h2 h3=>hT.r k (by omega) h3,hT.t⟩;by_cases e:k=d
  · subst e;exact hl
  exact hT.z k (by omega)
end
end Go.Proofs.YtghmeeifjeafmaaGreat
namespace Go.Proofs.YtghmeeifjeafmaaGreat
section
variable(os:List Int)
theorem UQ(hn:os.length≤6)(us:List V)(hl:us.length≤1048576)(nx:Nat):AC Tryz.prog 65 nx BN [B2 os.length us] (fun nx' H' r=>∃id,r= .h id 0 us.length∧nx≤id∧id<nx'∧H' id=some (us.map (vi os.length))):=by
 refine AC.C2 A9 Tryz.func65 rfl (by kernel_rfl) Tryz.ntmps65 Tryz.results65 (fun C7 cX=>?_)
 refine sQ fun N hN=>?_;simp-dsimp-implicitDefEqProofs(disch:=omega)only[go_sem,B2,vi];apply hN;refine sQ fun N hN=>?_;simp-dsimp-implicitDefEqProofs(disch:=omega)only[go_sem,B2,vi];apply hN;refine AW.seq fun N1 BC=>?_;refine sQ fun N hN=>?_;simp-dsimp-implicitDefEqProofs(disch:=omega)only[go_sem,B2,vi];apply hN;apply AW.block;refine AW.AF (α:=Nat×Nat×List V) (fun x=>sl 21 [(0,B2 os.length us),(3,.h x.2.1 0 x.2.2.length),(4,.i .i64 x.1)]) (fun x=>AU BN x.2.1 (some (x.2.2.map (vi os.length)))) (fun x m=>(x.1≤us.length∧nx≤x.2.1∧x.2.1<m)∧x.2.2=us.take x.1) (fun x=>us.length-x.1) ((0,nx+1,[])) ?_ ?_ (by intro d cs hd;simp only[AU,BN,List.map_nil]at hd ⊢;grind) ?_
 ·exact⟨⟨by omega,by first|omega|(dsimp only;omega),by first|omega|(dsimp only;omega)⟩,rfl⟩
 ·simp(disch:=omega) [AO,AQ,sl,B2]
 skip
 rintro⟨k,id,K⟩ m ⟨⟨hk,DA,hm⟩,hK⟩
 dsimp only at hk DA hm hK ⊢
 have Sp:K.length=k:=by rw[hK,List.length_take];omega
 refine AW.seq fun N2 BM=>?_;refine sQ fun N hN=>?_;simp-dsimp-implicitDefEqProofs(disch:=omega)only[go_sem,B2,vi];apply hN;refine AW.cond rfl ?_ ?_<;>intro h1
 ·try simp only[cn]at h1
  have ht:us.take (k+1)=us.take k++[us.getD k z0]:=by
   rw[List.take_succ_eq_append_getElem (show k<us.length by omega)];simp[show k<us.length by omega]
  apply AW.skip;apply BM;refine AW.seq fun N3 BQ=>?_;apply AW.block;apply rQ;simp-dsimp-implicitDefEqProofs(disch:=omega)only[go_sem,B2,vi];refine AC.pure (.of (pQ os (us.getD k z0) (by omega))) ?_;try simp-dsimp-implicitDefEqProofs(disch:=omega)only[go_sem,B2,vi]
  apply BQ;apply rQ;simp-dsimp-implicitDefEqProofs(disch:=omega)only[go_sem,B2,vi];refine⟨(k+1,m+4+7,K++[us.getD k z0]),?_,(by intro d cs hd;simp only[AU,BN,B1,List.map_append,List.map_cons,List.map_nil,vi]at hd ⊢;grind),?_,?_⟩
  ·simp(disch:=omega) [AO,AQ,sl,AJ,B2]
  ·exact⟨⟨by omega,by first|omega|(dsimp only;omega),by first|omega|(dsimp only;omega)⟩,by (try simp only[]);rw[ht,hK]⟩
  first|omega|(simp only;omega)
 try simp only[cn]at h1
 apply AW.exit;apply BC;refine sQ fun N hN=>?_;simp-dsimp-implicitDefEqProofs(disch:=omega)only[go_sem,B2,vi];apply hN;apply AW.ret;simp-dsimp-implicitDefEqProofs(disch:=omega)only[go_sem];have R8:K=us:=by rw[hK,show k=us.length by omega,List.take_length]
 rw[R8]
 exact⟨_,fun _ _ h=>h,id,rfl,DA,by omega,A1 _ _ _⟩
end
end Go.Proofs.YtghmeeifjeafmaaGreat
namespace Go.Proofs.YtghmeeifjeafmaaGreat
def LN(P:Pc)(t:Nat→Option V):Prop:=∀d y,t d=some y→d<P.n∧T P d y∧y d=1
theorem LN.T{P:Pc}(hv:F9 P){t:Nat→Option V}(h:LN P t):Ic P t:=fun d y hy=>(h d y hy).2.1.mono hv (Nat.zero_le d)
theorem T.up{P:Pc}{d:Nat}{x:V}(h:Go.Proofs.YtghmeeifjeafmaaGreat.T P d x)(h0:x d=0):Go.Proofs.YtghmeeifjeafmaaGreat.T P (d+1) x:=by
  refine⟨fun k hk=>?_,fun k h2 h3=>h.r k (by omega) h3,h.t⟩;by_cases e:k=d
  · subst e;exact h0
  exact h.z k (by omega)
theorem YZ{P:Pc}(hv:F9 P)(hc:DI P 0){t:Nat→Option V}(ht:LN P t):∀f d x,d+f=P.n→T P d x→
    d≤(EB P t f d x).1∧(EB P t f d x).1≤P.n∧T P (EB P t f d x).1 (EB P t f d x).2∧((EB P t f d x).1<P.n→t (EB P t f d x).1=none∧(EB P t f d x).2 (EB P t f d x).1≠0):=by
  intro f;induction f with
  |zero=>intro d x hd hx;rw[EB];exact⟨Nat.le_refl _,by omega,hx,fun h=>absurd h (by dsimp only;omega)⟩
  | succ f ih=>
    intro d x hd hx;rw[EB];split
    · rename_i h0;obtain⟨i1,i2,i3,i4⟩:=ih (d+1) x (by omega) (hx.up h0);exact⟨by omega,i2,i3,i4⟩
    rename_i h0;cases hy:t d with
    |none=>exact⟨Nat.le_refl _,by dsimp only;omega,hx,fun _=>⟨hy,h0⟩⟩
    | some y=>
      obtain⟨y1,y2,y3⟩:=ht d y hy;obtain⟨i1,i2,i3,i4⟩:=ih (d+1) _ (by omega) (XR hv hc y1 hx y2 y3);exact⟨Nat.le_trans (Nat.le_succ d) i1,i2,i3,i4⟩
noncomputable def IQ(P:Pc)(t:Nat→Option V)(d:Nat)(y:V):Nat→List V
  |0=>[]
  | e+1=>match t e with
    |none=>IQ P t d y e
    |some z=>if e=d then IQ P t d y e else IQ P t d y e++[xR P y z]
theorem bE{P:Pc}{t:Nat→Option V}{d:Nat}{y:V}:∀e,(IQ P t d y e).length≤e:=by
  intro e;induction e with
  |zero=>exact Nat.le_refl _
  | succ e ih=>
    rw[IQ];split
    · omega
    split
    · omega
    rw[List.length_append];simp;omega
noncomputable def P7(P:Pc)(s:Nat×V):V:=LL P s.2 (LH (P.o s.1) (s.2 s.1))
noncomputable def eQ(P:Pc)(t:Nat→Option V)(w:List V)(s:Nat×V):(Nat→Option V)×List V:=
  if s.1=P.n then (t,w)else (oset t s.1 (P7 P s),w++[s.2]++[LL P (P7 P s) (P.o s.1)]++IQ P (oset t s.1 (P7 P s)) s.1 (P7 P s) P.n)
noncomputable def Bp(P:Pc)(t:Nat→Option V)(w:List V):Nat×V:=EB P t P.n 0 (w.getD (w.length-1) z0)
noncomputable def R9(P:Pc):Nat→(Nat→Option V)→List V→Nat→Option V
  |0,t,_=>t
  |f+1,t,w=>if w.length=0 then t else R9 P f (eQ P t (w.take (w.length-1)) (Bp P t w)).1 (eQ P t (w.take (w.length-1)) (Bp P t w)).2
def bF(t:Nat→Option V):Nat→Nat
  |0=>0
  | k+1=>match t k with
    |none=>bF t k+1
    |some _=>bF t k
theorem iV{t:Nat→Option V}{d:Nat}{y:V}(hd:t d=none):∀k,(k≤d→bF (oset t d y) k=bF t k)∧(d<k→bF (oset t d y) k+1=bF t k):=by
  intro k;induction k with
  |zero=>exact⟨fun _=>rfl,fun h=>by omega⟩
  | succ k ih=>
    rw[bF,bF];by_cases e:k=d
    · subst e;have h1:oset t k y k=some y:=by simp[oset]
      rw[h1,hd];exact⟨fun h=>by omega,fun _=>by have:=ih.1 (Nat.le_refl _);dsimp only;omega⟩
    have h1:oset t d y k=t k:=by simp[oset,e]
    rw[h1];refine⟨fun h=>?_,fun h=>?_⟩
    · have:=ih.1 (by omega);cases t k<;>dsimp only<;>omega
    have:=ih.2 (by omega);cases t k<;>dsimp only<;>omega
def P8(P:Pc)(t:Nat→Option V)(w:List V):Nat:=bF t P.n*(P.n+3)+w.length
theorem iW{P:Pc}(hv:F9 P)(hc:DI P 0){t:Nat→Option V}(ht:LN P t){w:List V}(hw:w.length≠0)(hT:T P 0 (w.getD (w.length-1) z0)):
    P8 P (eQ P t (w.take (w.length-1)) (Bp P t w)).1 (eQ P t (w.take (w.length-1)) (Bp P t w)).2<P8 P t w:=by
  obtain⟨i1,i2,i3,i4⟩:=YZ hv hc ht P.n 0 _ (by omega) hT;have hl:(w.take (w.length-1)).length=w.length-1:=by rw[List.length_take];omega
  unfold P8 eQ Bp;split
  · dsimp only;rw[hl];omega
  rename_i AL;obtain⟨j1,j2⟩:=i4 (by omega);have h2:=(iV (y:=P7 P (EB P t P.n 0 (w.getD (w.length-1) z0))) j1 P.n).2 (by omega);have h3:=bE (P:=P) (t:=oset t (EB P t P.n 0 (w.getD (w.length-1) z0)).1 (P7 P (EB P t P.n 0 (w.getD (w.length-1) z0)))) (d:=(EB P t P.n 0 (w.getD (w.length-1) z0)).1) (y:=P7 P (EB P t P.n 0 (w.getD (w.length-1) z0))) P.n;dsimp only;rw[←h2,Nat.add_mul,Nat.one_mul];simp only[List.length_append,List.length_cons,List.length_nil,hl];omega
theorem RA{P:Pc}(hv:F9 P)(hc:DI P 0)(hp:∀d,d<P.n→J0 (P.o d)){s:Nat×V}(h1:s.1<P.n)(hT:T P s.1 s.2)(hn:s.2 s.1≠0):T P s.1 (P7 P s)∧P7 P s s.1=1:=by
  have hr:=hT.r s.1 (Nat.le_refl _) h1;obtain⟨p1,p2⟩:=TM hv hc h1 hT (LH (P.o s.1) (s.2 s.1));obtain⟨q1,q2,q3⟩:=PX (hp _ h1) (show 1≤s.2 s.1 by omega) hr.2;refine⟨p1,?_⟩;rw[P7,p2,Int.mul_comm];exact q3
theorem Ii{P:Pc}(hv:F9 P)(hc:DI P 0){t:Nat→Option V}(ht:Ic P t){d:Nat}{y:V}(hy:T P 0 y):∀e x,x∈IQ P t d y e→T P 0 x:=by
  intro e;induction e with
  |zero=>intro x hx;cases hx
  | succ e ih=>
    intro x hx;rw[IQ]at hx;split at hx
    · exact ih x hx
    rename_i z hz;split at hx
    · exact ih x hx
    rcases List.mem_append.1 hx with h|h
    · exact ih x h
    rw[List.mem_singleton.1 h];exact Bn hv hc hy (ht _ _ hz)
theorem pX{P:Pc}(hv:F9 P)(hc:DI P 0)(hp:∀d,d<P.n→J0 (P.o d)){t:Nat→Option V}(ht:LN P t){w:List V}(hw:∀x∈w,T P 0 x){x:V}(hx:T P 0 x):
    LN P (eQ P t w (EB P t P.n 0 x)).1∧∀z∈(eQ P t w (EB P t P.n 0 x)).2,T P 0 z:=by
  obtain⟨i1,i2,i3,i4⟩:=YZ hv hc ht P.n 0 x (by omega) hx;obtain⟨s,hs⟩:∃s,EB P t P.n 0 x=s:=⟨_,rfl⟩;rw[hs]at i1 i2 i3 i4 ⊢;unfold eQ;split
  · exact⟨ht,hw⟩
  rename_i AL;obtain⟨j1,j2⟩:=i4 (by omega);obtain⟨y1,y2⟩:=RA hv hc hp (by omega) i3 j2;have bG:=y1.mono hv (Nat.zero_le _);have hG:LN P (oset t s.1 (P7 P s)):=by
    intro d z hz;unfold oset at hz;split at hz
    · rename_i e;subst e;cases hz;exact⟨by omega,y1,y2⟩
    exact ht d z hz
  refine⟨hG,fun z hz=>?_⟩;rcases List.mem_append.1 hz with h|h
  · rcases List.mem_append.1 h with h|h
    · rcases List.mem_append.1 h with h|h
      · exact hw z h
      rw[List.mem_singleton.1 h];exact i3.mono hv (Nat.zero_le _)
    rw[List.mem_singleton.1 h];exact bB hv hc bG _
  exact Ii hv hc (hG.T hv) bG _ z h
end Go.Proofs.YtghmeeifjeafmaaGreat
namespace Go.Proofs.YtghmeeifjeafmaaGreat
theorem pY{t:Nat→Option V}:∀k,bF t k≤k:=by
  intro k;induction k with
  |zero=>exact Nat.le_refl _
  |succ k ih=>rw[bF];split<;>omega
section
variable(os:List Int)(pw:List (List Int))(cj:List (List (List Int)))
set_option maxHeartbeats 1000000 in
theorem SG(h:AI os pw cj)(hc:DI (pc os pw cj) 0)(us:List V)(hl:us.length≤1000)(hu:∀x∈us,T (pc os pw cj) 0 x)(nx:Nat):AC Tryz.prog 49 nx BN [A8 os pw cj,B2 os.length us] (fun nx' H' r=>Bo os.length nx nx' BN H' r (DK (SE (pc os pw cj) os.length (R9 (pc os pw cj) (P8 (pc os pw cj) (fun _=>none) us) (fun _=>none) us) os.length) os.length)):=by
 have J4:=h.1.1
 have hv:=h.val
 have J2:=h.2.1
 have xK:P8 (pc os pw cj) (fun _=>none) us≤2000:=by
  have h1:bF (fun _=>none) os.length*(os.length+3)≤6*9:=Nat.mul_le_mul (Nat.le_trans (pY _) J4) (by omega);show bF (fun _=>none) os.length*(os.length+3)+us.length≤2000
  omega
 obtain⟨R,hR⟩:∃R,R9 (pc os pw cj) (P8 (pc os pw cj) (fun _=>none) us) (fun _=>none) us=R:=⟨_,rfl⟩
 rw[hR]
 refine AC.C2 A9 Tryz.func49 rfl (by kernel_rfl) Tryz.ntmps49 Tryz.results49 (fun C7 cX=>?_)
 refine sQ fun N hN=>?_;simp-dsimp-implicitDefEqProofs(disch:=omega)only[go_sem,A8,A5,vi];apply hN;refine AW.B5 2 nx _ rfl (A1 _ _ _) ?_
 simp-dsimp-implicitDefEqProofs(disch:=omega)only[go_sem];refine sQ fun N hN=>?_;simp-dsimp-implicitDefEqProofs(disch:=omega)only[go_sem,A8,A5,vi];apply hN;refine sQ fun N hN=>?_;simp-dsimp-implicitDefEqProofs(disch:=omega)only[go_sem,A8,A5,vi];apply hN;refine AW.Sj (nx+2+4+1) os.length (A1 _ _ _) ?_
 rw[iS]
 simp-dsimp-implicitDefEqProofs(disch:=omega)only[go_sem];refine sQ fun N hN=>?_;simp-dsimp-implicitDefEqProofs(disch:=omega)only[go_sem,A8,A5,vi];refine AC.mono (AC.frame (UQ os (by omega) us (by omega) _)) ?_
 rintro m1 H1 r1 ⟨H0,⟨id,rfl,pZ,xW,Ss⟩,CK,F4⟩
 have hH1:=(F4 id pZ).trans Ss
 have MB:H1 (nx+2+4+1)=some (TL os.length (fun _=>none)):=(CK _ (by omega)).trans (A1 _ _ _)
 clear Ss F4 CK
 try simp-dsimp-implicitDefEqProofs(disch:=omega)only[go_sem,A8,A5,vi]
 apply hN;refine AW.seq fun N1 BC=>?_;apply AW.block;refine AW.AF (α:=(Nat→Option V)×Nat×List V×Nat×Nat) (fun x=>sl 105 [(2,A5 os pw cj),(5,.i .i64 os.length),(6,.h (nx+2+4+1) 0 os.length),(7,.h x.2.1 0 x.2.2.2.1)]) (fun x=>AU (AU BN (nx+2+4+1) (some (TL os.length x.1))) x.2.1 (some (x.2.2.1.map (vi os.length)))) (fun x m=>((x.2.2.2.1≤x.2.2.1.length∧x.2.2.2.2≤2000)∧nx+2+4+1<x.2.1∧x.2.1<m)∧(LN (pc os pw cj) x.1∧∀y∈x.2.2.1.take x.2.2.2.1,T (pc os pw cj) 0 y)∧P8 (pc os pw cj) x.1 (x.2.2.1.take x.2.2.2.1)≤x.2.2.2.2∧R9 (pc os pw cj) x.2.2.2.2 x.1 (x.2.2.1.take x.2.2.2.1)=R) (fun x=>x.2.2.2.2) ((fun _=>none,id,us,us.length,P8 (pc os pw cj) (fun _=>none) us)) ?_ ?_ (by intro d cs hd;simp only[AU,BN]at hd ⊢;grind) ?_
 ·(refine⟨⟨⟨Nat.le_refl _,xK⟩,(by dsimp only;omega),(by first|omega|(dsimp only;omega))⟩,⟨fun d y hy=>(by cases hy),fun y hy=>hu y (by simpa using hy)⟩,by simp,by simpa using hR⟩)
 ·simp(disch:=omega) [AO,AQ,sl,A5,ints,rows,A4,B2]
 skip
 rintro⟨t,HD,W,k,f⟩ m ⟨⟨⟨hk,dB⟩,xV,A1J⟩,⟨hG,hW⟩,hM,hC⟩
 dsimp only at hk dB xV A1J hG hW hM hC ⊢
 simp only[A5];simp-dsimp-implicitDefEqProofs(disch:=omega)only[go_sem];refine AW.seq fun N2 BM=>?_;refine sQ fun N hN=>?_;simp-dsimp-implicitDefEqProofs(disch:=omega)only[go_sem,A8,A5,vi];apply hN;refine AW.cond rfl ?_ ?_<;>intro h1
 ·try simp only[cn]at h1
  have RW:1≤k:=by omega
  have n5:(W.take k).length=k:=by rw[List.length_take];omega
  have EX:k≤2000:=by unfold P8 at hM;omega
  obtain⟨a,ha⟩:∃a,W.getD (k-1) z0=a:=⟨_,rfl⟩;have hwa:(W.take k).getD ((W.take k).length-1) z0=a:=by
   rw[n5,←ha];simp only[List.getD_eq_getElem?_getD];rw[List.getElem?_take,if_pos (by omega)]
  have uE:T (pc os pw cj) 0 a:=by
   rw[←hwa];exact hW _ (by rw[List.getD_eq_getElem?_getD,List.getElem?_eq_getElem (by omega)];exact List.getElem_mem _)
  have e1:((k:Int)-1).toNat=k-1:=by omega
  have JZ:(W.map (vi os.length)).getD (k-1) .j=vi os.length a:=by rw[PY (by omega),ha]
  apply AW.skip;apply BM;apply AW.block;refine sQ fun N hN=>?_;simp-dsimp-implicitDefEqProofs(disch:=omega)only[go_sem,A8,A5,vi,e1,JZ];apply hN;refine sQ fun N hN=>?_;simp-dsimp-implicitDefEqProofs(disch:=omega)only[go_sem,A8,A5,vi,e1];apply hN;refine sQ fun N hN=>?_;simp-dsimp-implicitDefEqProofs(disch:=omega)only[go_sem,A8,A5,vi];refine(SF os pw cj h hc t (hG.T hv) a uE _ _ (nx+2+4+1) ((A0 _ _ (by omega)).trans (A1 _ _ _))).AG ?_
  rintro m3 _ _ S9 ⟨rfl,rfl⟩;obtain⟨⟨sd,su⟩,hs⟩:∃s,EB (pc os pw cj) t os.length 0 a=s:=⟨_,rfl⟩;rw[hs,Si];dsimp only;try simp-dsimp-implicitDefEqProofs(disch:=omega)only[go_sem,A8,A5,vi]
  obtain⟨f',hf⟩:∃f',f=f'+1:=⟨f-1,by unfold P8 at hM;omega⟩;subst hf;have JL:Bp (pc os pw cj) t (W.take k)=(sd,su):=by rw[Bp,hwa];exact hs
  have mQ:(W.take k).take ((W.take k).length-1)=W.take (k-1):=by rw[n5,List.take_take];congr 1;omega
  have MC:=iW hv hc hG (w:=W.take k) (by omega) (by rw[hwa];exact uE);have PA:=hC;rw[R9,if_neg (by omega)]at PA;rw[JL,mQ]at PA MC;have Yx:∀y∈W.take (k-1),T (pc os pw cj) 0 y:=fun y hy=>hW y (List.mem_of_mem_take (by rw[←mQ]at hy;exact hy))
  apply hN;refine AW.seq fun N3 BQ=>?_;refine sQ fun N hN=>?_;simp-dsimp-implicitDefEqProofs(disch:=omega)only[go_sem,A8,A5,vi];apply hN;refine AW.cond rfl ?_ ?_<;>intro h2
  ·try simp only[cn]at h2
   have tY:eQ (pc os pw cj) t (W.take (k-1)) (sd,su)=(t,W.take (k-1)):=by rw[eQ,if_pos (show sd=(pc os pw cj).n from (by show sd=os.length;omega))]
   rw[tY]at PA MC;apply AW.exit;simp only[aO,D1,if_true];refine⟨(t,HD,W,k-1,f'),?_,fun _ _ h=>h,?_,?_⟩
   ·simp(disch:=omega) [AO,AQ,sl,A5,ints,rows,A4]<;>omega
   ·(try dsimp only);exact⟨⟨⟨by omega,by omega⟩,xV,by first|omega|(dsimp only;omega)⟩,⟨hG,Yx⟩,by (try (dsimp only at MC));omega,PA⟩
   first|omega|(simp only;omega)
  try simp only[cn]at h2
  obtain⟨i1,i2,i3,i4⟩:=YZ hv hc hG os.length 0 a (Nat.zero_add _) uE;rw[hs]at i2 i3 i4;dsimp only at i2 i3 i4;have i2':sd≤os.length:=i2;have O0:sd<os.length:=by omega
  obtain⟨j1,j2⟩:=i4 O0;have hr:=i3.r sd (Nat.le_refl _) O0;have lN:(pc os pw cj).o sd=os.getD sd 0:=rfl;have iX:=J2 sd O0;have mX:=D0 iX;have Su:=i3.mono hv (Nat.zero_le _);obtain⟨v1,v2,v3⟩:=PX iX (show 1≤su sd by omega) (by omega);obtain⟨Mw,yl⟩:=RA hv hc (fun d hd=>J2 d hd) (s:=(sd,su)) O0 i3 j2;have I4:=Mw.mono hv (Nat.zero_le _);have Mx:=FM os pw cj h hc su Su (LH (os.getD sd 0) (su sd)) (by omega);obtain⟨y,hy⟩:∃y,P7 (pc os pw cj) (sd,su)=y:=⟨_,rfl⟩;rw[show LL (pc os pw cj) su (LH (os.getD sd 0) (su sd))=y from hy]at Mx;rw[hy]at I4 Mw yl;have Yy:=FM os pw cj h hc y I4 (os.getD sd 0) (by omega);have n6:B0 (TL os.length t) sd [AV.v os.length (DM os.length y)]=TL os.length (oset t sd y):=iR O0;have hdI:((sd:Int)<(os.length:Int))=True:=eq_true (by omega);have hGn:LN (pc os pw cj) (oset t sd y):=by
   intro d z hz;unfold oset at hz;split at hz
   ·rename_i ee;subst ee;cases hz;exact⟨O0,Mw,yl⟩
   exact hG d z hz
  have XS:=hGn.T hv;have lO:List.take (k-1+1) (List.take (k-1) (List.map (vi os.length) W)++[AV.v os.length (DM os.length su)])=List.map (vi os.length) (W.take (k-1))++[AV.v os.length (DM os.length su)]:=by
   rw[List.take_of_length_le (by simp;omega),List.map_take]
  apply AW.skip;apply BQ;refine AW.seq fun N hN=>?_;refine AW.BI A9 (by kernel_rfl) 14 (by kernel_rfl) ?_
  simp-dsimp-implicitDefEqProofs(disch:=omega)only[B3,B4,BH,List.take_succ_cons,List.take_zero,List.drop_succ_cons,List.drop_zero,List.take_nil,List.drop_nil,go_sem,undef,A8,A5,AJ,vi,ints,A6];refine⟨_,.of (UO (su sd) (os.getD sd 0) iX (by omega) (by omega)),?_⟩;try simp-dsimp-implicitDefEqProofs(disch:=omega)only[go_sem,A8,A5,vi]
  refine⟨_,.of (Mx),?_⟩;try simp-dsimp-implicitDefEqProofs(disch:=omega)only[go_sem,A8,A5,vi]
  apply hN;refine sQ fun N hN=>?_;simp-dsimp-implicitDefEqProofs(disch:=omega)only[go_sem,A8,A5,vi,n6];apply hN;refine sQ fun N hN=>?_;simp-dsimp-implicitDefEqProofs(disch:=omega)only[go_sem,A8,A5,vi];apply hN;refine AW.seq fun N hN=>?_;refine AW.BI A9 (by kernel_rfl) 10 (by kernel_rfl) ?_
  simp-dsimp-implicitDefEqProofs(disch:=omega)only[B3,B4,BH,List.take_succ_cons,List.take_zero,List.drop_succ_cons,List.drop_zero,List.take_nil,List.drop_nil,go_sem,undef,A8,A5,AJ,vi,ints,A6];refine⟨_,.of (Yy),?_⟩;try simp-dsimp-implicitDefEqProofs(disch:=omega)only[go_sem,A8,A5,vi]
  apply hN;refine sQ fun N hN=>?_;simp-dsimp-implicitDefEqProofs(disch:=omega)only[go_sem,A8,A5,vi];apply hN;apply AW.block;refine AW.AF (α:=Nat×Nat×List V) (fun x=>sl 105 [(2,A5 os pw cj),(5,.i .i64 os.length),(6,.h (nx+2+4+1) 0 os.length),(7,.h x.2.1 0 x.2.2.length),(9,.i .i64 sd),(11,vi os.length y),(12,.i .i64 x.1)]) (fun x=>AU (AU BN (nx+2+4+1) (some (TL os.length (oset t sd y)))) x.2.1 (some (x.2.2.map (vi os.length)))) (fun x m=>(x.1≤os.length∧nx+2+4+1<x.2.1∧x.2.1<m)∧x.2.2=W.take (k-1)++[su]++[LL (pc os pw cj) y (os.getD sd 0)]++IQ (pc os pw cj) (oset t sd y) sd y x.1) (fun x=>os.length-x.1) ((0,m3+3+14+5+5+10,W.take (k-1)++[su]++[LL (pc os pw cj) y (os.getD sd 0)])) ?_ ?_ (by intro d cs hd;dsimp only at hd ⊢;rw[lO];simp only[AU,BN,List.map_append,List.map_cons,List.map_nil,vi]at hd ⊢;grind) ?_
  ·exact⟨⟨by omega,by first|omega|(dsimp only;omega),by first|omega|(dsimp only;omega)⟩,by simp[IQ]⟩
  ·simp(disch:=omega) [AO,AQ,sl,A5,ints,rows,A4,vi]<;>omega
  skip
  rintro⟨e,uC,K⟩ m2 ⟨⟨he,xX,Ij⟩,hK⟩;dsimp only at he xX Ij hK ⊢;simp only[vi,A5];simp-dsimp-implicitDefEqProofs(disch:=omega)only[go_sem];have E6:=bE (P:=pc os pw cj) (t:=oset t sd y) (d:=sd) (y:=y) e;have Sp:K.length≤3000:=by rw[hK];simp only[List.length_append,List.length_cons,List.length_nil,List.length_take];omega
  refine AW.seq fun N4 CG=>?_;refine sQ fun N hN=>?_;simp-dsimp-implicitDefEqProofs(disch:=omega)only[go_sem,A8,A5,vi];apply hN;refine AW.cond rfl ?_ ?_<;>intro h3
  ·try simp only[cn]at h3
   apply AW.skip;apply CG;refine AW.seq fun N5 DW=>?_;apply AW.block;refine sQ fun N hN=>?_;simp-dsimp-implicitDefEqProofs(disch:=omega)only[go_sem,A8,A5,vi];refine C9.mk' (fun h4=>?_) (fun h4=>?_)
   ·(try simp only[cn]at h4);try simp-dsimp-implicitDefEqProofs(disch:=omega)only[go_sem,A8,A5,vi]
    apply hN;refine AW.cond rfl ?_ ?_<;>intro h5
    ·(try simp only[cn]at h5);obtain⟨z,hz,Sn⟩:=iU (n:=os.length) (o:=oset t sd y e) (by omega);have Mv:T (pc os pw cj) 0 z:=XS e z hz;have XQ:IQ (pc os pw cj) (oset t sd y) sd y (e+1)=IQ (pc os pw cj) (oset t sd y) sd y e++[xR (pc os pw cj) y z]:=by rw[IQ,hz];dsimp only;rw[if_neg (by omega)]
     refine AW.BI A9 (by kernel_rfl) 9 (by kernel_rfl) ?_;simp-dsimp-implicitDefEqProofs(disch:=omega)only[B3,B4,BH,List.take_succ_cons,List.take_zero,List.drop_succ_cons,List.drop_zero,List.take_nil,List.drop_nil,go_sem,undef,A8,A5,AJ,vi];rw[Sn];refine⟨_,.of (SC os pw cj h hc y z I4 Mv),?_⟩;try simp-dsimp-implicitDefEqProofs(disch:=omega)only[go_sem,A8,A5,vi]
     apply DW;apply rQ;simp-dsimp-implicitDefEqProofs(disch:=omega)only[go_sem,A8,A5,vi];refine⟨(e+1,m2+3+11+9,K++[xR (pc os pw cj) y z]),?_,by intro d cs hd;simp only[AU,BN,B1,List.map_append,List.map_cons,List.map_nil,vi]at hd ⊢;grind,?_,?_⟩
     ·simp(disch:=omega) [AO,AQ,sl,A5,ints,rows,A4,vi]<;>omega
     ·exact⟨⟨by omega,by first|omega|(dsimp only;omega),by first|omega|(dsimp only;omega)⟩,by (try simp only[]);rw[XQ,hK];simp only[List.append_assoc]⟩
     first|omega|(simp only;omega)
    (try simp only[cn]at h5);have XQ:IQ (pc os pw cj) (oset t sd y) sd y (e+1)=IQ (pc os pw cj) (oset t sd y) sd y e:=by rw[IQ,iT (n:=os.length) (o:=oset t sd y e) (by omega) (by omega)]
    apply AW.skip;apply DW;apply rQ;simp-dsimp-implicitDefEqProofs(disch:=omega)only[go_sem,A8,A5,vi];refine⟨(e+1,uC,K),?_,fun _ _ h=>h,?_,?_⟩
    ·simp(disch:=omega) [AO,AQ,sl,A5,ints,rows,A4,vi]<;>omega
    ·exact⟨⟨by omega,by first|omega|(dsimp only;omega),by first|omega|(dsimp only;omega)⟩,by (try simp only[]);rw[XQ,hK]⟩
    first|omega|(simp only;omega)
   try simp only[cn]at h4
   have hse:e=sd:=by omega
   have XQ:IQ (pc os pw cj) (oset t sd y) sd y (e+1)=IQ (pc os pw cj) (oset t sd y) sd y e:=by rw[IQ];split;rfl;rw[if_pos hse]
   try simp-dsimp-implicitDefEqProofs(disch:=omega)only[go_sem,A8,A5,vi]
   apply hN;refine AW.C8 rfl ?_;apply AW.skip;apply DW;apply rQ;simp-dsimp-implicitDefEqProofs(disch:=omega)only[go_sem,A8,A5,vi];refine⟨(e+1,uC,K),?_,fun _ _ h=>h,?_,?_⟩
   ·simp(disch:=omega) [AO,AQ,sl,A5,ints,rows,A4,vi]<;>omega
   ·exact⟨⟨by omega,by first|omega|(dsimp only;omega),by first|omega|(dsimp only;omega)⟩,by (try simp only[]);rw[XQ,hK]⟩
   first|omega|(simp only;omega)
  try simp only[cn]at h3
  have n7:e=os.length:=by omega
  subst n7;have tY:eQ (pc os pw cj) t (W.take (k-1)) (sd,su)=(oset t sd y,K):=by rw[eQ,if_neg (show ¬sd=(pc os pw cj).n from (by show ¬sd=os.length;omega)),hy,hK];rfl
  obtain⟨XT,hKT⟩:=pX hv hc (fun d hd=>J2 d hd) hG Yx uE;rw[show EB (pc os pw cj) t (pc os pw cj).n 0 a=(sd,su)from hs,tY]at hKT;rw[tY]at PA MC;apply AW.exit;simp only[aO,D1,if_true];refine⟨(oset t sd y,uC,K,K.length,f'),?_,fun _ _ h=>h,?_,?_⟩
  ·simp(disch:=omega) [AO,AQ,sl,A5,ints,rows,A4]<;>omega
  ·try dsimp only
   rw[List.take_length];exact⟨⟨⟨Nat.le_refl _,by omega⟩,by omega,by first|omega|(dsimp only;omega)⟩,⟨hGn,hKT⟩,by (try (dsimp only at MC));omega,PA⟩
  first|omega|(simp only;omega)
 try simp only[cn]at h1
 apply AW.exit;apply BC;have YG:k=0:=by omega
 subst YG
 have htR:t=R:=by rw[←hC];cases f with|zero=>rfl|succ f=>rfl
 subst htR
 refine AW.freeze 6 (nx+2+4+1) os.length _ rfl ((A0 _ _ (by omega)).trans (A1 _ _ _)) YX ?_
 simp-dsimp-implicitDefEqProofs(disch:=omega)only[go_sem];refine sQ fun N hN=>?_;simp-dsimp-implicitDefEqProofs(disch:=omega)only[go_sem,A8,A5,vi];refine(AC.frS (UP os pw cj h hc t (hG.T hv) _)).AG ?_
 rintro m9 H9 r9 WA ⟨id9,rfl,hi9,hj9,rfl⟩
 try simp-dsimp-implicitDefEqProofs(disch:=omega)only[go_sem,A8,A5,vi]
 apply hN;apply AW.ret;simp-dsimp-implicitDefEqProofs(disch:=omega)only[go_sem];exact⟨_,pT,id9,rfl,by omega,by omega,rfl⟩
theorem RB(h:AI os pw cj)(hc:DI (pc os pw cj) 0)(us:List V)(hl:us.length≤1000)(hu:∀x∈us,T (pc os pw cj) 0 x):BG Tryz.prog 49 [A8 os pw cj,B2 os.length us] (B2 os.length (DK (SE (pc os pw cj) os.length (R9 (pc os pw cj) (P8 (pc os pw cj) (fun _=>none) us) (fun _=>none) us) os.length) os.length)):= .ofS fun nx=>SG os pw cj h hc us hl hu nx
end
end Go.Proofs.YtghmeeifjeafmaaGreat
