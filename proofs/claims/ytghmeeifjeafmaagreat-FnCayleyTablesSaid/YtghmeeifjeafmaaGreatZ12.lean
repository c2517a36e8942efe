import Derived.Test.YtghmeeifjeafmaaGreatZ11
set_option linter.unusedVariables false
set_option linter.unusedSimpArgs false
namespace Go.Proofs.YtghmeeifjeafmaaGreat
theorem Ow.Hr{H:HP}{r:AV}{n:Nat}{f:V}{ids:List Nat}(h:Ow H r (Go.Proofs.YtghmeeifjeafmaaGreat.vi n f) ids):(n=0∧(r= .nl∨r= .v 0 []))∨∃id,r= .h id 0 n∧id∈ids∧H id=some (Go.Proofs.YtghmeeifjeafmaaGreat.DM n f):=by
  rw[←EE]at h;rcases h.oR with ⟨h1,h2⟩|⟨id,h1,h2,h3⟩
  · refine .inl ⟨?_,h2⟩;have:=congrArg List.length h1;rw[C1]at this;simpa using this
  rw[C1]at h1 h3;exact .inr ⟨id,h1,h2,by rw[h3,FJ (fun k hk=>PM hk)]⟩
theorem W9.vi{P:Program}{f:FuncId}{xs ts:List AV}{n:Nat}{g:V}(h:W9 P f ts (Go.Proofs.YtghmeeifjeafmaaGreat.vi n g)){nx:Nat}{H:HP}(hv:WK H xs ts):AC P f nx H xs (fun _ H' r=>r=Go.Proofs.YtghmeeifjeafmaaGreat.vi n g∧H=H'):=by
  have base:=AC.own (K:=fun nx' H' r=>∃ids,(∀i,i<nx→H' i=H i)∧Own nx nx' H' r (Go.Proofs.YtghmeeifjeafmaaGreat.vi n g) ids) h hv (fun nx' H' r ids _ h2 h3=>⟨ids,h2,h3⟩);refine⟨base.1,fun L Av w us hs C7 ha=>(base.2 L Av w us hs C7 ha).mono ?_⟩;rintro e w' ⟨u,r,L',nx',H',h1,⟨ids,g1,g2,g3,g4⟩,h3,h4,h5,h6,h7,h8⟩;have mO:∀i,nx≤i→H i=none:=fun i hi=>by
    cases hc:H i with
    |none=>rfl
    | some cs=>
      obtain⟨l,q1,_⟩:=hs.node i cs hc;rw[C7 i hi]at q1;cases q1
  have U4:∀i cs,H i=some cs→H' i=some cs:=fun i cs hi=>by
    have:i<nx:=by
      apply Classical.byContradiction;intro hn;rw[mO i (by omega)]at hi;cases hi
    rw[g1 i this];exact hi
  have hz:L7 H' H:=fun i cs hi=>⟨cs,U4 i cs hi,rfl,fun k x y h1 h2=>by rw[h1]at h2;cases h2;exact .refl _⟩
  refine⟨u,_,L',nx',H,h1,⟨rfl,rfl⟩,h3,h4,h5,h6.sub U4,⟨h7.le,h7.os,h7.tape,h7.output,h7.size,h7.AD,fun b hb hl=>h7.old b hb (QX U4 hl)⟩,?_⟩;rcases g2.Hr with ⟨rfl,rfl|rfl⟩|⟨id,rfl,DA,hc⟩
  · rw[h8.DZ];exact .v0 _ _
  · exact Fz.sound h6 hz (.refl _) h8
  refine Fz.sound h6 hz ?_ h8;exact .h id 0 n _ _ hc (mO id (g4 id DA).1) (by rw[E0];omega) E0 (fun k x y h1 h2=>by rw[Nat.zero_add,h2]at h1;cases h1;exact .refl _)
theorem lG{n:Nat}(f:V)(hn:n≤1099511627776):W9 Tryz.prog 56 [vi n f] (vi n f):=by
  intro nx;have:=EC (vec n f) (by rw[C1];exact hn) nx BN;rw[EE,C1]at this;refine this.mono ?_;rintro nx' H' r (h|⟨rfl,rfl,rfl⟩)
  · obtain⟨ids,h2⟩:=h.own;rw[EE]at h2;exact⟨ids,by unfold vi at h2 ⊢;rwa [FJ (fun k hk=>PM hk)]at h2⟩
  exact⟨[],.leaf _ .v0 (.v _ _ (by simp)),by simp,by simp⟩
def wY(os:List Int)(pw:List (List Int))(cj:List (List (List Int)))(i:Nat):Prop:=∀(nx:Nat) (H:HP) (id:Nat) (e f:V),H id=some (DM os.length e)→T (pc os pw cj) 0 e→T (pc os pw cj) i f→
  AC Tryz.prog 114 nx H [A5 os pw cj,.h id 0 os.length,vi os.length f] (fun _ H' _=>H'=AU H id (some (DM os.length (app (pc os pw cj) i e f))))
def lH(os:List Int)(pw:List (List Int))(cj:List (List (List Int)))(j:Nat):Prop:=∀(nx:Nat) (H:HP) (id:Nat) (e:V),H id=some (DM os.length e)→T (pc os pw cj) 0 e→
  AC Tryz.prog 142 nx H [A5 os pw cj,.h id 0 os.length,.i .i64 j] (fun _ H' _=>H'=AU H id (some (DM os.length (app (pc os pw cj) j e (un j)))))
theorem Vw.sub{H:HP}{id n o m:Nat}{e:V}(h:H id=some (Go.Proofs.YtghmeeifjeafmaaGreat.DM n e))(hn:o+m=n):Vw H (.h id o m) (Go.Proofs.YtghmeeifjeafmaaGreat.vi m (fun k=>e (o+k))):=by
  refine .h id o m _ _ h (by rw[E0];omega) E0 (fun k x y hx hy=>?_);have hk:k<m:=by
    have:=(List.getElem?_eq_some_iff.1 hy).1;rwa [E0]at this
  have h1:(Go.Proofs.YtghmeeifjeafmaaGreat.DM n e)[o+k]? =some (.i .i64 (e (o+k))):=by simp[Go.Proofs.YtghmeeifjeafmaaGreat.DM,show o+k<n by omega]
  have h2:(Go.Proofs.YtghmeeifjeafmaaGreat.DM m (fun k=>e (o+k)))[k]? =some (.i .i64 (e (o+k))):=by simp[Go.Proofs.YtghmeeifjeafmaaGreat.DM,hk]
  rw[h1]at hx;rw[h2]at hy;cases hx;cases hy;exact .refl _
theorem C6{j:Nat}{e t:V}{c:Int}:TG j e c t j=c:=by rw[TG,if_neg (by omega),if_pos rfl]
theorem BJ{j:Nat}{e t:V}{c d:Int}:AX (TG j e c t) j d=TG j e d t:=by
  funext k;simp only[AX,TG]
  by_cases h:k=j
  · subst h;rw[if_pos rfl,if_neg (by omega),if_pos rfl]
  rw[if_neg h,if_neg h];split<;>rfl
set_option maxHeartbeats 1000000 in
theorem KH(os:List Int)(pw:List (List Int))(cj:List (List (List Int)))(h:AI os pw cj)(j:Nat)(hj:j<os.length)(hg:HL (T (pc os pw cj) (j+1)) (M (pc os pw cj) (j+1)))(p8:wY os pw cj (j+1)):lH os pw cj j:=by
 intro nx H id e hH he
 have hv:=h.val
 have J4:=h.1.1
 have XI:=h.1.2.1
 have E6:=h.1.2.2
 have UF:=(h.2.2.2 j hj).2.1
 have a9:=T.small h he
 have hrj:=he.r j (by omega) hj
 have vW:=h.o7 hj
 have Rz:(pc os pw cj).o j=os.getD j 0:=rfl
 have e3:AV.v (pw.getD j []).length (List.map (AV.i IntKind.i64) (pw.getD j []))=vi os.length ((pc os pw cj).pw j):=CN (h.Hn hj)
 have tz:=T.zero hv (j+1)
 have tp:=hv.pw j hj
 refine AC.C2 A9 Tryz.func142 rfl (by kernel_rfl) Tryz.ntmps142 Tryz.results142 (fun C7 cX=>?_)
 refine sQ fun N hN=>?_;simp-dsimp-implicitDefEqProofs(disch:=omega)only[go_sem,A5,ints,rows,A4,A6,A7,AB,vi,hH,C6,BJ];refine(W9.vi (lG (n:=(os.length-(j+1))) (fun t=>e (j+1+t)) (by omega)) (.cons (Vw.sub hH (by omega)) .nil)).mono ?_
 rintro _ H1 r1 ⟨rfl,rfl⟩
 try simp-dsimp-implicitDefEqProofs(disch:=omega)only[go_sem,A5,ints,rows,A4,A6,A7,AB,vi,hH,C6,BJ]
 apply hN;refine AW.seq fun N1 BC=>?_;refine sQ fun N hN=>?_;simp-dsimp-implicitDefEqProofs(disch:=omega)only[go_sem,A5,ints,rows,A4,A6,A7,AB,vi,hH,C6,BJ];apply hN;apply AW.block;refine AW.AF (α:=Nat) (fun x=>sl 83 [(0,A5 os pw cj),(1,.h id 0 os.length),(2,.i .i64 j),(6,vi (os.length-(j+1)) (fun t=>e (j+1+t))),(16,.i .i64 ((os.length-(j+1)):Nat)),(17,.i .i64 x)]) (fun x=>AU H id (some (DM os.length (fun t=>if j<t∧t<j+1+x then 0 else e t)))) (fun x m=>x≤(os.length-(j+1))) (fun x=>(os.length-(j+1))-x) (0) ?_ ?_ (by rw[FJ (g:=e) (fun t ht=>if_neg (by omega))];exact eF (fun i c _ h=>h) (fun d hd=>by cases hd;exact hH)) ?_
 ·omega
 ·simp(disch:=omega) [AO,AQ,sl,A5,ints,rows,A4,vi]
 skip
 rintro k m hk
 simp only[A5,vi];simp-dsimp-implicitDefEqProofs(disch:=omega)only[go_sem];refine sQ fun N hN=>?_;simp-dsimp-implicitDefEqProofs(disch:=omega)only[go_sem,A5,ints,rows,A4,A6,A7,AB,vi,hH,C6,BJ];apply hN;refine AW.seq fun N2 BM=>?_;refine AW.cond rfl ?_ ?_<;>intro h1
 ·try simp only[cn]at h1
  apply AW.skip;apply BM;refine AW.seq fun N3 BQ=>?_;apply AW.block;refine sQ fun N hN=>?_;simp-dsimp-implicitDefEqProofs(disch:=omega)only[go_sem,A5,ints,rows,A4,A6,A7,AB,vi,hH,C6,BJ];apply hN;apply rQ;simp-dsimp-implicitDefEqProofs(disch:=omega)only[go_sem,A5,ints,rows,A4,A6,A7,AB,vi,hH,C6,BJ];apply BQ;apply rQ;simp-dsimp-implicitDefEqProofs(disch:=omega)only[go_sem,A5,ints,rows,A4,A6,A7,AB,vi,hH,C6,BJ];refine⟨k+1,?_,(by rw[FJ (f:=fun t=>if j<t∧t<j+1+(k+1)then 0 else e t) (g:=AX (fun t=>if j<t∧t<j+1+k then 0 else e t) (j+1+k) 0) (fun t _=>by simp only[AX];split<;>split<;>first|rfl|omega|(split<;>first|rfl|omega))];exact fun _ _ h=>h),?_,?_⟩
  ·simp(disch:=omega) [AO,AQ,sl,A5,AJ,ints,rows,A4,vi]<;>omega
  ·omega
  first|omega|(simp only;omega)
 try simp only[cn]at h1
 apply AW.exit;apply BC;have hz:DM os.length (fun t=>if j<t∧t<j+1+k then 0 else e t)=DM os.length (TG j e (e j) z0):=by
  refine FJ (fun t ht=>?_);simp only[TG,z0];by_cases q1:t<j
  ·rw[if_pos q1,if_neg (by omega)]
  by_cases q2:t=j
  ·subst q2;rw[if_neg (by omega),if_neg (by omega),if_pos rfl]
  rw[if_pos (by omega),if_neg q1,if_neg q2]
 rw[hz]
 refine sQ fun N hN=>?_;simp-dsimp-implicitDefEqProofs(disch:=omega)only[go_sem,A5,ints,rows,A4,A6,A7,AB,vi,hH,C6,BJ];apply hN;refine AW.seq fun N4 CG=>?_;refine AW.seq fun N hN=>?_;refine AW.BI A9 (by kernel_rfl) 12 (by kernel_rfl) ?_
 simp-dsimp-implicitDefEqProofs(disch:=omega)only[B3,B4,BH,List.take_succ_cons,List.take_zero,List.drop_succ_cons,List.drop_zero,List.take_nil,List.drop_nil,go_sem,undef,A5,ints,rows,A4,A6,A7,AB,AJ,vi,hH,C6,BJ];apply hN;refine AW.cond rfl ?_ ?_<;>intro h2
 ·try simp only[cn]at h2
  refine sQ fun N hN=>?_;simp-dsimp-implicitDefEqProofs(disch:=omega)only[go_sem,A5,ints,rows,A4,A6,A7,AB,vi,hH,C6,BJ];apply hN;apply rQ;simp-dsimp-implicitDefEqProofs(disch:=omega)only[go_sem,A5,ints,rows,A4,A6,A7,AB,vi,hH,C6,BJ];rw[e3]
  refine(p8 _ _ id (TG j e 0 z0) ((pc os pw cj).pw j) (A1 _ _ _) (oY hv hj he (by omega) (by omega) tz) tp).mono ?_;rintro _ H1 r1 rfl;rw[YS hv tz tp,hg.l1 tp];try simp-dsimp-implicitDefEqProofs(disch:=omega)only[go_sem,A5,ints,rows,A4,A6,A7,AB,vi,hH,C6,BJ]
  apply CG;refine sQ fun N hN=>?_;simp-dsimp-implicitDefEqProofs(disch:=omega)only[go_sem,A5,ints,rows,A4,A6,A7,AB,vi,hH,C6,BJ];apply hN;apply AW.block;refine AW.AF (α:=Nat×V) (fun x=>sl 83 [(0,A5 os pw cj),(1,.h id 0 os.length),(2,.i .i64 j),(58,vi (os.length-(j+1)) (fun t=>e (j+1+t))),(59,.i .i64 ((os.length-(j+1)):Nat)),(60,.i .i64 x.1)]) (fun x=>AU H id (some (DM os.length (TG j e 0 x.2)))) (fun x m=>x.1≤(os.length-(j+1))∧T (pc os pw cj) (j+1) x.2∧HB (M (pc os pw cj) (j+1)) ((pc os pw cj).cj j) e ((os.length-(j+1))-x.1) (j+1+x.1) x.2=HB (M (pc os pw cj) (j+1)) ((pc os pw cj).cj j) e (os.length-(j+1)) (j+1) ((pc os pw cj).pw j)) (fun x=>(os.length-(j+1))-x.1) ((0,((pc os pw cj).pw j))) ?_ ?_ (fun _ _ h=>h) ?_
  ·exact⟨Nat.zero_le _,tp,rfl⟩
  ·simp(disch:=omega) [AO,AQ,sl,A5,ints,rows,A4,vi]
  skip
  rintro⟨q,t⟩ m ⟨hq,ht,hf⟩;dsimp only at hq ht hf;simp only[A5,vi];simp-dsimp-implicitDefEqProofs(disch:=omega)only[go_sem];refine sQ fun N hN=>?_;simp-dsimp-implicitDefEqProofs(disch:=omega)only[go_sem,A5,ints,rows,A4,A6,A7,AB,vi,hH,C6,BJ];apply hN;refine AW.seq fun N5 DW=>?_;refine AW.cond rfl ?_ ?_<;>intro h3
  ·try simp only[cn]at h3
   have Sc:j+1+q<os.length:=by omega
   have hsq:=a9 (j+1+q);apply AW.skip;apply DW;refine AW.seq fun N6 HC=>?_;apply AW.block;refine sQ fun N hN=>?_;simp-dsimp-implicitDefEqProofs(disch:=omega)only[go_sem,A5,ints,rows,A4,A6,A7,AB,vi,hH,C6,BJ];apply hN;refine sQ fun N hN=>?_;simp-dsimp-implicitDefEqProofs(disch:=omega)only[go_sem,A5,ints,rows,A4,A6,A7,AB,vi,hH,C6,BJ];apply hN;apply AW.block;refine AW.AF (α:=Nat×V) (fun x=>sl 83 [(0,A5 os pw cj),(1,.h id 0 os.length),(2,.i .i64 j),(8,.i .i64 q),(58,vi (os.length-(j+1)) (fun t=>e (j+1+t))),(59,.i .i64 ((os.length-(j+1)):Nat)),(60,.i .i64 q),(65,.i .i64 (e (j+1+q))),(66,.i .i64 x.1)]) (fun x=>AU H id (some (DM os.length (TG j e 0 x.2)))) (fun x m=>x.1≤(e (j+1+q)).toNat∧T (pc os pw cj) (j+1) x.2∧x.2=CW (fun u=>M (pc os pw cj) (j+1) u ((pc os pw cj).cj j (j+1+q))) x.1 t) (fun x=>(e (j+1+q)).toNat-x.1) ((0,t)) ?_ ?_ (fun _ _ h=>h) ?_
   ·exact⟨Nat.zero_le _,ht,rfl⟩
   ·simp(disch:=omega) [AO,AQ,sl,A5,ints,rows,A4,vi]
   skip
   rintro⟨y,w⟩ m2 ⟨hy,hw,P6⟩;dsimp only at hy hw P6;simp only[A5,vi];simp-dsimp-implicitDefEqProofs(disch:=omega)only[go_sem];refine sQ fun N hN=>?_;simp-dsimp-implicitDefEqProofs(disch:=omega)only[go_sem,A5,ints,rows,A4,A6,A7,AB,vi,hH,C6,BJ];apply hN;refine AW.seq fun N7 JO=>?_;refine AW.cond rfl ?_ ?_<;>intro h4
   ·(try simp only[cn]at h4);have e1:AV.v ((cj.getD j []).getD q []).length (List.map (AV.i IntKind.i64) ((cj.getD j []).getD q []))=vi os.length ((pc os pw cj).cj j (j+1+q)):=by
     have:=CN (h.mY (show j<j+1+q by omega) Sc);rw[show j+1+q-j-1=q by omega]at this;refine this.trans ?_;show vi _ (fl _)=vi _ (fl ((cj.getD j []).getD (j+1+q-j-1) []))
     rw[show j+1+q-j-1=q by omega]
    have tq:=hv.cj j (j+1+q) (by omega) Sc;apply AW.skip;apply JO;refine AW.seq fun N8 JJ=>?_;apply AW.block;apply rQ;simp-dsimp-implicitDefEqProofs(disch:=omega)only[go_sem,A5,ints,rows,A4,A6,A7,AB,vi,hH,C6,BJ];rw[e1]
    refine(p8 _ _ id (TG j e 0 w) ((pc os pw cj).cj j (j+1+q)) (A1 _ _ _) (oY hv hj he (by omega) (by omega) hw) tq).mono ?_;rintro _ H1 r1 rfl;rw[YS hv hw tq];try simp-dsimp-implicitDefEqProofs(disch:=omega)only[go_sem,A5,ints,rows,A4,A6,A7,AB,vi,hH,C6,BJ]
    apply JJ;apply rQ;simp-dsimp-implicitDefEqProofs(disch:=omega)only[go_sem,A5,ints,rows,A4,A6,A7,AB,vi,hH,C6,BJ];refine⟨(y+1,M (pc os pw cj) (j+1) w ((pc os pw cj).cj j (j+1+q))),?_,fun _ _ h=>h,?_,?_⟩
    ·simp(disch:=omega) [AO,AQ,sl,A5,AJ,ints,rows,A4,vi]<;>omega
    ·exact⟨by first|omega|(dsimp only;omega),hg.cl hw tq,by rw[P6];rfl⟩
    first|omega|(simp only;omega)
   try simp only[cn]at h4
   apply AW.exit;apply HC;apply rQ;simp-dsimp-implicitDefEqProofs(disch:=omega)only[go_sem,A5,ints,rows,A4,A6,A7,AB,vi,hH,C6,BJ];refine⟨(q+1,w),?_,fun _ _ h=>h,?_,?_⟩
   ·simp(disch:=omega) [AO,AQ,sl,A5,AJ,ints,rows,A4,vi]<;>omega
   ·refine⟨by first|omega|(dsimp only;omega),hw,?_⟩;show HB (M (pc os pw cj) (j+1)) ((pc os pw cj).cj j) e ((os.length-(j+1))-(q+1)) (j+1+(q+1)) w=_
    rw[←hf,P6,show(os.length-(j+1))-q=(os.length-(j+1))-(q+1)+1 by omega,HB,show y=(e (j+1+q)).toNat by omega];rfl
   first|omega|(simp only;omega)
  try simp only[cn]at h3
  apply AW.exit;simp only[aO,D1,if_true];try simp-dsimp-implicitDefEqProofs(disch:=omega)only[go_sem,]
  have h9:(os.length-(j+1))-q=0:=by omega
  rw[h9]at hf;have dB:t=_:=hf;refine⟨_,Le.refl _,?_⟩;rw[oZ hv hj hg he];unfold Hk;first
  |rw[if_pos (show e j+1=(pc os pw cj).o j from h2),dB];rfl
  |rw[if_neg (show ¬e j+1=(pc os pw cj).o j from h2),dB];rfl
 try simp only[cn]at h2
 apply AW.skip;apply CG;refine sQ fun N hN=>?_;simp-dsimp-implicitDefEqProofs(disch:=omega)only[go_sem,A5,ints,rows,A4,A6,A7,AB,vi,hH,C6,BJ];apply hN;apply AW.block;refine AW.AF (α:=Nat×V) (fun x=>sl 83 [(0,A5 os pw cj),(1,.h id 0 os.length),(2,.i .i64 j),(58,vi (os.length-(j+1)) (fun t=>e (j+1+t))),(59,.i .i64 ((os.length-(j+1)):Nat)),(60,.i .i64 x.1)]) (fun x=>AU H id (some (DM os.length (TG j e (e j+1) x.2)))) (fun x m=>x.1≤(os.length-(j+1))∧T (pc os pw cj) (j+1) x.2∧HB (M (pc os pw cj) (j+1)) ((pc os pw cj).cj j) e ((os.length-(j+1))-x.1) (j+1+x.1) x.2=HB (M (pc os pw cj) (j+1)) ((pc os pw cj).cj j) e (os.length-(j+1)) (j+1) z0) (fun x=>(os.length-(j+1))-x.1) ((0,z0)) ?_ ?_ (fun _ _ h=>h) ?_
 ·exact⟨Nat.zero_le _,tz,rfl⟩
 ·simp(disch:=omega) [AO,AQ,sl,A5,ints,rows,A4,vi]
 skip
 rintro⟨q,t⟩ m ⟨hq,ht,hf⟩
 dsimp only at hq ht hf
 simp only[A5,vi];simp-dsimp-implicitDefEqProofs(disch:=omega)only[go_sem];refine sQ fun N hN=>?_;simp-dsimp-implicitDefEqProofs(disch:=omega)only[go_sem,A5,ints,rows,A4,A6,A7,AB,vi,hH,C6,BJ];apply hN;refine AW.seq fun N9 M6=>?_;refine AW.cond rfl ?_ ?_<;>intro h5
 ·try simp only[cn]at h5
  have Sc:j+1+q<os.length:=by omega
  have hsq:=a9 (j+1+q);apply AW.skip;apply M6;refine AW.seq fun lF FW=>?_;apply AW.block;refine sQ fun N hN=>?_;simp-dsimp-implicitDefEqProofs(disch:=omega)only[go_sem,A5,ints,rows,A4,A6,A7,AB,vi,hH,C6,BJ];apply hN;refine sQ fun N hN=>?_;simp-dsimp-implicitDefEqProofs(disch:=omega)only[go_sem,A5,ints,rows,A4,A6,A7,AB,vi,hH,C6,BJ];apply hN;apply AW.block;refine AW.AF (α:=Nat×V) (fun x=>sl 83 [(0,A5 os pw cj),(1,.h id 0 os.length),(2,.i .i64 j),(8,.i .i64 q),(58,vi (os.length-(j+1)) (fun t=>e (j+1+t))),(59,.i .i64 ((os.length-(j+1)):Nat)),(60,.i .i64 q),(65,.i .i64 (e (j+1+q))),(66,.i .i64 x.1)]) (fun x=>AU H id (some (DM os.length (TG j e (e j+1) x.2)))) (fun x m=>x.1≤(e (j+1+q)).toNat∧T (pc os pw cj) (j+1) x.2∧x.2=CW (fun u=>M (pc os pw cj) (j+1) u ((pc os pw cj).cj j (j+1+q))) x.1 t) (fun x=>(e (j+1+q)).toNat-x.1) ((0,t)) ?_ ?_ (fun _ _ h=>h) ?_
  ·exact⟨Nat.zero_le _,ht,rfl⟩
  ·simp(disch:=omega) [AO,AQ,sl,A5,ints,rows,A4,vi]
  skip
  rintro⟨y,w⟩ m2 ⟨hy,hw,P6⟩;dsimp only at hy hw P6;simp only[A5,vi];simp-dsimp-implicitDefEqProofs(disch:=omega)only[go_sem];refine sQ fun N hN=>?_;simp-dsimp-implicitDefEqProofs(disch:=omega)only[go_sem,A5,ints,rows,A4,A6,A7,AB,vi,hH,C6,BJ];apply hN;refine AW.seq fun p5 HI=>?_;refine AW.cond rfl ?_ ?_<;>intro h6
  ·try simp only[cn]at h6
   have e1:AV.v ((cj.getD j []).getD q []).length (List.map (AV.i IntKind.i64) ((cj.getD j []).getD q []))=vi os.length ((pc os pw cj).cj j (j+1+q)):=by
    have:=CN (h.mY (show j<j+1+q by omega) Sc);rw[show j+1+q-j-1=q by omega]at this;refine this.trans ?_;show vi _ (fl _)=vi _ (fl ((cj.getD j []).getD (j+1+q-j-1) []))
    rw[show j+1+q-j-1=q by omega]
   have tq:=hv.cj j (j+1+q) (by omega) Sc;apply AW.skip;apply HI;refine AW.seq fun wX KG=>?_;apply AW.block;apply rQ;simp-dsimp-implicitDefEqProofs(disch:=omega)only[go_sem,A5,ints,rows,A4,A6,A7,AB,vi,hH,C6,BJ];rw[e1]
   refine(p8 _ _ id (TG j e (e j+1) w) ((pc os pw cj).cj j (j+1+q)) (A1 _ _ _) (oY hv hj he (by omega) (by omega) hw) tq).mono ?_;rintro _ H1 r1 rfl;rw[YS hv hw tq];try simp-dsimp-implicitDefEqProofs(disch:=omega)only[go_sem,A5,ints,rows,A4,A6,A7,AB,vi,hH,C6,BJ]
   apply KG;apply rQ;simp-dsimp-implicitDefEqProofs(disch:=omega)only[go_sem,A5,ints,rows,A4,A6,A7,AB,vi,hH,C6,BJ];refine⟨(y+1,M (pc os pw cj) (j+1) w ((pc os pw cj).cj j (j+1+q))),?_,fun _ _ h=>h,?_,?_⟩
   ·simp(disch:=omega) [AO,AQ,sl,A5,AJ,ints,rows,A4,vi]<;>omega
   ·exact⟨by first|omega|(dsimp only;omega),hg.cl hw tq,by rw[P6];rfl⟩
   first|omega|(simp only;omega)
  try simp only[cn]at h6
  apply AW.exit;apply FW;apply rQ;simp-dsimp-implicitDefEqProofs(disch:=omega)only[go_sem,A5,ints,rows,A4,A6,A7,AB,vi,hH,C6,BJ];refine⟨(q+1,w),?_,fun _ _ h=>h,?_,?_⟩
  ·simp(disch:=omega) [AO,AQ,sl,A5,AJ,ints,rows,A4,vi]<;>omega
  ·refine⟨by first|omega|(dsimp only;omega),hw,?_⟩;show HB (M (pc os pw cj) (j+1)) ((pc os pw cj).cj j) e ((os.length-(j+1))-(q+1)) (j+1+(q+1)) w=_
   rw[←hf,P6,show(os.length-(j+1))-q=(os.length-(j+1))-(q+1)+1 by omega,HB,show y=(e (j+1+q)).toNat by omega];rfl
  first|omega|(simp only;omega)
 try simp only[cn]at h5
 apply AW.exit;simp only[aO,D1,if_true];try simp-dsimp-implicitDefEqProofs(disch:=omega)only[go_sem,]
 have h9:(os.length-(j+1))-q=0:=by omega
 rw[h9]at hf
 have dB:t=_:=hf
 refine⟨_,Le.refl _,?_⟩
 rw[oZ hv hj hg he]
 unfold Hk
 first
 |rw[if_pos (show e j+1=(pc os pw cj).o j from h2),dB];rfl
 |rw[if_neg (show ¬e j+1=(pc os pw cj).o j from h2),dB];rfl
theorem wZ{f:V}:tl 0 f=f:=by funext k;simp[tl]
theorem Hs{n:Nat}{f:V}(h:∀k,n≤k→f k=0):tl n f=z0:=by
  funext k;simp only[tl,z0];split
  · rfl
  exact h k (by omega)
theorem eI{k:Nat}{f:V}{a:Int}:AX (tl k f) k a=AX (tl (k+1) f) k a:=by
  funext t;simp only[AX,tl]
  by_cases e:t=k
  · rw[if_pos e,if_pos e]
  rw[if_neg e,if_neg e];by_cases e2:t<k
  · rw[if_pos e2,if_pos (by omega)]
  rw[if_neg e2,if_neg (by omega)]
theorem xA{k:Nat}{f:V}:AX (tl k f) k (f k)=tl k f:=by
  funext t;simp only[AX,tl];split
  · rename_i e;subst e;rw[if_neg (by omega)]
  rfl
theorem xB{k:Nat}{f:V}:AX (tl k f) k 0=tl (k+1) f:=by
  rw[eI];exact F8 (by simp[tl])
section
variable{P:Pc}
theorem T.tail(hv:F9 P){i:Nat}{f:V}(h:T P i f)(k:Nat):T P k (tl k f):=
  ⟨fun t ht=>by simp[tl,ht],fun t h1 h2=>by
    rw[tl,if_neg (by omega)];by_cases e:t<i
    · rw[h.z t e];have:=hv.o t h2;omega
    · exact h.r t (by omega) h2,fun t ht=>by
    rw[tl];split
    · rfl
    exact h.t t ht⟩
theorem p9(hv:F9 P){i k:Nat}(T5:i≤k)(hk:k<P.n)(hg:HL (T P i) (M P i))(LA:HL (T P (k+1)) (M P (k+1))){e f:V}(he:T P 0 e)(hf:T P i f){a:Int}(h0:0≤a)(h1:a+1<P.o k):
    app P i (app P k e (un k)) (AX (tl k f) k a)=app P i e (AX (tl k f) k (a+1)):=by
  have tu:=lB hv (Nat.le_refl k) hk;have t1:T P (k+1) (tl (k+1) f):=hf.tail hv (k+1);have t2:T P k (AX (tl (k+1) f) k a):=T.put hk t1 h0 (by omega);rw[eI,eI,←eG hv T5 he tu,wT hv hg he (tu.mono hv T5) (t2.mono hv T5),RZ hv T5 tu t2,Hi hv hk LA t1 h0 h1]
end
set_option maxHeartbeats 1000000 in
theorem HM(os:List Int)(pw:List (List Int))(cj:List (List (List Int)))(h:AI os pw cj)(i:Nat)(hc:DI (pc os pw cj) i)(Ys:∀k,i≤k→k<os.length→lH os pw cj k):wY os pw cj i:=by
 intro nx H id e f hH he hf
 have hv:=h.val
 have J4:=h.1.1
 have hg:=BO hv hc
 have a9:=T.small h hf
 have Yt:(pc os pw cj).n=os.length:=rfl
 refine AC.C2 A9 Tryz.func114 rfl (by kernel_rfl) Tryz.ntmps114 Tryz.results114 (fun C7 cX=>?_)
 refine sQ fun N hN=>?_;simp-dsimp-implicitDefEqProofs(disch:=omega)only[go_sem,A5,ints,rows,A4,vi];apply hN;apply AW.block;refine AW.AF (α:=Nat×V) (fun x=>sl 24 [(0,A5 os pw cj),(1,.h id 0 os.length),(8,vi os.length f),(9,.i .i64 os.length),(10,.i .i64 x.1)]) (fun x=>AU H id (some (DM os.length x.2))) (fun x m=>x.1≤os.length∧T (pc os pw cj) 0 x.2∧app (pc os pw cj) i x.2 (tl x.1 f)=app (pc os pw cj) i e f) (fun x=>os.length-x.1) ((0,e)) ?_ ?_ (by exact eF (fun i c _ h=>h) (fun d hd=>by cases hd;exact hH)) ?_
 ·exact⟨Nat.zero_le _,he,by rw[wZ]⟩
 ·simp(disch:=omega) [AO,AQ,sl,A5,ints,rows,A4,vi]
 skip
 rintro⟨k,e1⟩ m ⟨hk,Me,uA⟩
 dsimp only at hk Me uA
 simp only[A5,vi];simp-dsimp-implicitDefEqProofs(disch:=omega)only[go_sem];refine sQ fun N hN=>?_;simp-dsimp-implicitDefEqProofs(disch:=omega)only[go_sem,A5,ints,rows,A4,vi];apply hN;refine AW.seq fun N1 BC=>?_;refine AW.cond rfl ?_ ?_<;>intro h1
 ·try simp only[cn]at h1
  have Bk:=a9 k;apply AW.skip;apply BC;refine AW.seq fun N2 BM=>?_;apply AW.block;refine sQ fun N hN=>?_;simp-dsimp-implicitDefEqProofs(disch:=omega)only[go_sem,A5,ints,rows,A4,vi];apply hN;refine sQ fun N hN=>?_;simp-dsimp-implicitDefEqProofs(disch:=omega)only[go_sem,A5,ints,rows,A4,vi];apply hN;apply AW.block;refine AW.AF (α:=Nat×V) (fun x=>sl 24 [(0,A5 os pw cj),(1,.h id 0 os.length),(6,.i .i64 k),(8,vi os.length f),(9,.i .i64 os.length),(10,.i .i64 k),(15,.i .i64 (f k)),(16,.i .i64 x.1)]) (fun x=>AU H id (some (DM os.length x.2))) (fun x m=>x.1≤(f k).toNat∧T (pc os pw cj) 0 x.2∧app (pc os pw cj) i x.2 (AX (tl k f) k (f k-x.1))=app (pc os pw cj) i e f) (fun x=>(f k).toNat-x.1) ((0,e1)) ?_ ?_ (fun _ _ h=>h) ?_
  ·exact⟨Nat.zero_le _,Me,by dsimp only;rw[show f k-((0:Nat):Int)=f k by omega,xA];exact uA⟩
  ·simp(disch:=omega) [AO,AQ,sl,A5,ints,rows,A4,vi]
  skip
  rintro⟨q,e2⟩ m2 ⟨hq,P6,dB⟩;dsimp only at hq P6 dB;simp only[A5,vi];simp-dsimp-implicitDefEqProofs(disch:=omega)only[go_sem];refine sQ fun N hN=>?_;simp-dsimp-implicitDefEqProofs(disch:=omega)only[go_sem,A5,ints,rows,A4,vi];apply hN;refine AW.seq fun N3 BQ=>?_;refine AW.cond rfl ?_ ?_<;>intro h2
  ·try simp only[cn]at h2
   have T5:i≤k:=by
    apply Classical.byContradiction;intro hn;have:=hf.z k (by omega);omega
   have hrk:=hf.r k T5 (by omega);apply AW.skip;apply BQ;refine AW.seq fun N4 CG=>?_;apply AW.block;apply rQ;simp-dsimp-implicitDefEqProofs(disch:=omega)only[go_sem,A5,ints,rows,A4,vi];refine(Ys k T5 (by omega) _ _ id e2 (A1 _ _ _) P6).mono ?_
   rintro _ H1 r1 rfl;try simp-dsimp-implicitDefEqProofs(disch:=omega)only[go_sem,A5,ints,rows,A4,vi]
   apply CG;apply rQ;simp-dsimp-implicitDefEqProofs(disch:=omega)only[go_sem,A5,ints,rows,A4,vi];refine⟨(q+1,app (pc os pw cj) k e2 (un k)),?_,fun _ _ h=>h,?_,?_⟩
   ·simp(disch:=omega) [AO,AQ,sl,A5,AJ,ints,rows,A4,vi]<;>omega
   ·refine⟨by first|omega|(dsimp only;omega),Rv hv P6 (lB hv (Nat.le_refl k) (by omega)),?_⟩;dsimp only;rw[p9 hv T5 (by omega) hg (BO hv (hc.mono (by omega))) P6 hf (by omega) (by omega),show f k-((q+1:Nat):Int)+1=f k-q by omega];exact dB
   first|omega|(simp only;omega)
  try simp only[cn]at h2
  apply AW.exit;apply BM;apply rQ;simp-dsimp-implicitDefEqProofs(disch:=omega)only[go_sem,A5,ints,rows,A4,vi];refine⟨(k+1,e2),?_,fun _ _ h=>h,?_,?_⟩
  ·simp(disch:=omega) [AO,AQ,sl,A5,AJ,ints,rows,A4,vi]<;>omega
  ·refine⟨by first|omega|(dsimp only;omega),P6,?_⟩;dsimp only;rw[←xB,←dB,show f k-(q:Int)=0 by omega]
  first|omega|(simp only;omega)
 try simp only[cn]at h1
 apply AW.exit;simp only[aO,D1,if_true];try simp-dsimp-implicitDefEqProofs(disch:=omega)only[go_sem,]
 obtain rfl:k=os.length:=by omega
 rw[Hs (n:=os.length) (fun t ht=>hf.t t ht),Hh hv hg Me]at uA
 exact⟨_,Le.refl _,by rw[uA]⟩
theorem M7(os:List Int)(pw:List (List Int))(cj:List (List (List Int)))(h:AI os pw cj):∀i,DI (pc os pw cj) i→wY os pw cj i∧∀j,i≤j→j<os.length→lH os pw cj j:=by
  have hv:=h.val;have key:∀d i,os.length-i=d→DI (pc os pw cj) i→wY os pw cj i∧∀j,i≤j→j<os.length→lH os pw cj j:=by
    intro d;induction d with
    | zero=>
      intro i hd hc;have hG:∀j,i≤j→j<os.length→lH os pw cj j:=fun j h1 h2=>by omega
      exact⟨HM os pw cj h i hc hG,hG⟩
    | succ d ih=>
      intro i hd hc;have h1:=ih (i+1) (by omega) (hc.mono (by omega));have hG:∀j,i≤j→j<os.length→lH os pw cj j:=fun j h2 h3=>by
        by_cases e:j=i
        · subst e;exact KH os pw cj h j h3 (BO hv (hc.mono (by omega))) h1.1
        exact h1.2 j (by omega) h3
      exact⟨HM os pw cj h i hc hG,hG⟩
  exact fun i hc=>key _ i rfl hc
end Go.Proofs.YtghmeeifjeafmaaGreat
namespace Go.Proofs.YtghmeeifjeafmaaGreat
theorem UI{n:Nat}(f:V)(hn:n≤1099511627776)(nx:Nat)(H:HP):AC Tryz.prog 56 nx H [vi n f] (fun nx' H' r=>CpI nx nx' H H' r n f):=by
  have:=EC (vec n f) (by rw[C1];exact hn) nx H;rw[EE,C1]at this;refine this.mono ?_;rintro nx' H' r (⟨id,h1,h2,h3,h4⟩|h)
  · exact .inl ⟨id,h1,h2,h3,by rw[h4,FJ (fun k hk=>PM hk)]⟩
  exact .inr h
theorem Own.vi{a b:Nat}{H:HP}{id n:Nat}{f:V}(h:H id=some (Go.Proofs.YtghmeeifjeafmaaGreat.DM n f))(h1:a≤id)(h2:id<b):∃ids,Own a b H (.h id 0 n) (Go.Proofs.YtghmeeifjeafmaaGreat.vi n f) ids:=by
  rw[←EE];exact⟨_,Own.ints (by rw[h,HT]) C1.symm h1 h2⟩
theorem Own.vi0{a b:Nat}{H:HP}{n:Nat}{f:V}(h:n=0):∃ids,Own a b H (.v 0 []) (Go.Proofs.YtghmeeifjeafmaaGreat.vi n f) ids:=by
  subst h;exact⟨[],.leaf _ .v0 (.v _ _ (by simp)),by simp,by simp⟩
theorem OO(os:List Int)(pw:List (List Int))(cj:List (List (List Int)))(hn:os.length=0)(f:V)(nx:Nat)(H:HP):AC Tryz.prog 114 nx H [A5 os pw cj,.v 0 [],vi os.length f] (fun _ H' _=>H=H'):=by
 refine AC.C2 A9 Tryz.func114 rfl (by kernel_rfl) Tryz.ntmps114 Tryz.results114 (fun C7 cX=>?_)
 refine sQ fun N hN=>?_;simp-dsimp-implicitDefEqProofs(disch:=omega)only[go_sem,A5,ints,rows,A4,vi];apply hN;apply AW.block;refine AW.AF (α:=Nat) (fun x=>sl 24 [(0,A5 os pw cj),(1,.v 0 []),(8,vi os.length f),(9,.i .i64 os.length),(10,.i .i64 0)]) (fun _=>H) (fun x m=>True) (fun x=>0) (0) ?_ ?_ (fun _ _ h=>h) ?_
 ·trivial
 ·simp(disch:=omega) [AO,AQ,sl,A5,ints,rows,A4,vi]
 skip
 rintro k m hk
 simp only[A5,vi];simp-dsimp-implicitDefEqProofs(disch:=omega)only[go_sem];refine sQ fun N hN=>?_;simp-dsimp-implicitDefEqProofs(disch:=omega)only[go_sem,A5,ints,rows,A4,vi];apply hN;refine AW.seq fun N1 BC=>?_;refine AW.cond rfl ?_ ?_<;>intro h1
 ·try simp only[cn]at h1
  exfalso;omega
 try simp only[cn]at h1
 apply AW.exit;simp only[aO,D1,if_true];try simp-dsimp-implicitDefEqProofs(disch:=omega)only[go_sem,]
 exact⟨_,Le.refl _,rfl⟩
theorem BX(os:List Int)(pw:List (List Int))(cj:List (List (List Int)))(h:AI os pw cj)(i:Nat)(hc:DI (pc os pw cj) i)(a b:V)(ha:T (pc os pw cj) i a)(hb:T (pc os pw cj) i b):W9 Tryz.prog 83 [A5 os pw cj,vi os.length a,vi os.length b] (vi os.length (M (pc os pw cj) i a b)):=by
 have hv:=h.val
 have J4:=h.1.1
 have p8:=(M7 os pw cj h i hc).1
 intro nx
 refine AC.AM A9 Tryz.func83 rfl (by kernel_rfl) Tryz.ntmps83 Tryz.results83 (fun cX=>?_)
 refine sQ fun N hN=>?_;simp-dsimp-implicitDefEqProofs(disch:=omega)only[go_sem,];apply hN;refine sQ fun N hN=>?_;simp-dsimp-implicitDefEqProofs(disch:=omega)only[go_sem,];refine(UI a (by omega) _ _).mono ?_
 rintro m1 H1 r1 (⟨XO,rfl,g1,g2,rfl⟩|⟨h0,rfl,rfl⟩)
 ·skip
  try simp-dsimp-implicitDefEqProofs(disch:=omega)only[go_sem,]
  apply hN;refine sQ fun N hN=>?_;simp-dsimp-implicitDefEqProofs(disch:=omega)only[go_sem,];refine(p8 _ _ XO a b (A1 _ _ _) (ha.mono hv (by omega)) hb).AG ?_
  rintro m2 H2 r2 TI rfl;try simp-dsimp-implicitDefEqProofs(disch:=omega)only[go_sem,]
  apply hN;refine sQ fun N hN=>?_;simp-dsimp-implicitDefEqProofs(disch:=omega)only[go_sem,];apply hN;apply AW.ret;simp-dsimp-implicitDefEqProofs(disch:=omega)only[go_sem];rw[UE hv ha hb]
  exact Own.vi (by simp only[A1]) (by omega) (by omega)
 skip
 try simp-dsimp-implicitDefEqProofs(disch:=omega)only[go_sem,]
 apply hN;refine sQ fun N hN=>?_;simp-dsimp-implicitDefEqProofs(disch:=omega)only[go_sem,];refine(OO os pw cj h0 b _ _).AG ?_
 rintro m2 H2 r2 TI rfl
 try simp-dsimp-implicitDefEqProofs(disch:=omega)only[go_sem,]
 apply hN;refine sQ fun N hN=>?_;simp-dsimp-implicitDefEqProofs(disch:=omega)only[go_sem,];apply hN;apply AW.ret;simp-dsimp-implicitDefEqProofs(disch:=omega)only[go_sem];exact Own.vi0 h0
theorem WT(os:List Int)(pw:List (List Int))(cj:List (List (List Int)))(h:AI os pw cj)(i:Nat)(hc:DI (pc os pw cj) i)(a:V)(ha:T (pc os pw cj) i a)(k:Nat)(hk:k≤1099511627776):W9 Tryz.prog 125 [A5 os pw cj,vi os.length a,.i .i64 k] (vi os.length (rep (M (pc os pw cj) i) a k)):=by
 have hv:=h.val
 have J4:=h.1.1
 have hg:=BO hv hc
 have p8:=(M7 os pw cj h i hc).1
 intro nx
 refine AC.AM A9 Tryz.func125 rfl (by kernel_rfl) Tryz.ntmps125 Tryz.results125 (fun cX=>?_)
 refine sQ fun N hN=>?_;simp-dsimp-implicitDefEqProofs(disch:=omega)only[go_sem,A5,ints,rows,A4,vi];apply hN;refine sQ fun N hN=>?_;simp-dsimp-implicitDefEqProofs(disch:=omega)only[go_sem,A5,ints,rows,A4,vi];apply hN;refine AW.seq fun N1 BC=>?_;refine sQ fun N hN=>?_;simp-dsimp-implicitDefEqProofs(disch:=omega)only[go_sem,A5,ints,rows,A4,vi];apply hN;apply AW.block;refine AW.AF (α:=Nat) (fun x=>sl 20 [(0,A5 os pw cj),(1,vi os.length a),(7,.h (nx+1+2) 0 os.length),(11,.i .i64 k),(12,.i .i64 x)]) (fun x=>AU BN (nx+1+2) (some (DM os.length (rep (M (pc os pw cj) i) a x)))) (fun x m=>x≤k∧nx+4≤m) (fun x=>k-x) (0) ?_ ?_ (by rw[CA];exact Le.refl _) ?_
 ·exact⟨Nat.zero_le _,by first|omega|(dsimp only;omega)⟩
 ·simp(disch:=omega) [AO,AQ,sl,A5,ints,rows,A4,vi]
 skip
 rintro q m ⟨hq,hm⟩
 simp only[A5,vi];simp-dsimp-implicitDefEqProofs(disch:=omega)only[go_sem];refine sQ fun N hN=>?_;simp-dsimp-implicitDefEqProofs(disch:=omega)only[go_sem,A5,ints,rows,A4,vi];apply hN;refine AW.seq fun N2 BM=>?_;refine AW.cond rfl ?_ ?_<;>intro h1
 ·try simp only[cn]at h1
  apply AW.skip;apply BM;refine AW.seq fun N3 BQ=>?_;apply AW.block;apply rQ;simp-dsimp-implicitDefEqProofs(disch:=omega)only[go_sem,A5,ints,rows,A4,vi];refine(p8 _ _ (nx+1+2) _ a (A1 _ _ _) ((hg.rep ha q).mono hv (by omega)) ha).AG ?_
  rintro m2 H2 r2 TI rfl;rw[UE hv (hg.rep ha q) ha];try simp-dsimp-implicitDefEqProofs(disch:=omega)only[go_sem,A5,ints,rows,A4,vi]
  apply BQ;apply rQ;simp-dsimp-implicitDefEqProofs(disch:=omega)only[go_sem,A5,ints,rows,A4,vi];refine⟨q+1,?_,fun _ _ h=>h,?_,?_⟩
  ·simp(disch:=omega) [AO,AQ,sl,A5,AJ,ints,rows,A4,vi]<;>omega
  ·exact⟨by first|omega|(dsimp only;omega),by first|omega|(dsimp only;omega)⟩
  first|omega|(simp only;omega)
 try simp only[cn]at h1
 apply AW.exit;apply BC;refine sQ fun N hN=>?_;simp-dsimp-implicitDefEqProofs(disch:=omega)only[go_sem,A5,ints,rows,A4,vi];apply hN;apply AW.ret;simp-dsimp-implicitDefEqProofs(disch:=omega)only[go_sem];obtain rfl:q=k:=by omega
 exact Own.vi (A1 _ _ _) (by omega) (by omega)
theorem FA(os:List Int)(pw:List (List Int))(cj:List (List (List Int)))(h:AI os pw cj)(i:Nat)(hi:i<os.length)(hc:DI (pc os pw cj) (i+1))(a:V)(ha:T (pc os pw cj) (i+1) a):W9 Tryz.prog 139 [A5 os pw cj,.i .i64 i,vi os.length a] (vi os.length (DC (pc os pw cj) (M (pc os pw cj) (i+1)) i a)):=by
 have hv:=h.val
 have J4:=h.1.1
 have XI:=h.1.2.1
 have E6:=h.1.2.2
 have UF:=(h.2.2.2 i hi).2.1
 have hg:=BO hv hc
 have a9:=T.small h ha
 have p8:=(M7 os pw cj h (i+1) hc).1
 intro nx
 refine AC.AM A9 Tryz.func139 rfl (by kernel_rfl) Tryz.ntmps139 Tryz.results139 (fun cX=>?_)
 refine sQ fun N hN=>?_;simp-dsimp-implicitDefEqProofs(disch:=omega)only[go_sem,A5,ints,rows,A4,A6,A7,AB,vi];apply hN;refine sQ fun N hN=>?_;simp-dsimp-implicitDefEqProofs(disch:=omega)only[go_sem,A5,ints,rows,A4,A6,A7,AB,vi];apply hN;refine AW.seq fun N1 BC=>?_;refine sQ fun N hN=>?_;simp-dsimp-implicitDefEqProofs(disch:=omega)only[go_sem,A5,ints,rows,A4,A6,A7,AB,vi];apply hN;apply AW.block;refine AW.AF (α:=Nat×V) (fun x=>sl 42 [(0,A5 os pw cj),(1,.i .i64 i),(2,vi os.length a),(7,.h (nx+1+2) 0 os.length),(19,rows (cj.getD i [])),(20,.i .i64 (cj.getD i []).length),(21,.i .i64 x.1)]) (fun x=>AU BN (nx+1+2) (some (DM os.length x.2))) (fun x m=>(x.1≤(cj.getD i []).length∧nx+4≤m)∧T (pc os pw cj) (i+1) x.2∧HB (M (pc os pw cj) (i+1)) ((pc os pw cj).cj i) a (os.length-(i+1)-x.1) (i+1+x.1) x.2=DC (pc os pw cj) (M (pc os pw cj) (i+1)) i a) (fun x=>(cj.getD i []).length-x.1) ((0,z0)) ?_ ?_ (by rw[CA];exact Le.refl _) ?_
 ·exact⟨⟨Nat.zero_le _,by first|omega|(dsimp only;omega)⟩,T.zero hv _,rfl⟩
 ·simp(disch:=omega) [AO,AQ,sl,A5,ints,rows,A4,vi]
 skip
 rintro⟨q,u⟩ m ⟨⟨hq,hm⟩,hu,hf⟩
 dsimp only at hq hm hu hf
 simp only[A5,vi];simp-dsimp-implicitDefEqProofs(disch:=omega)only[go_sem];refine sQ fun N hN=>?_;simp-dsimp-implicitDefEqProofs(disch:=omega)only[go_sem,A5,ints,rows,A4,A6,A7,AB,vi];apply hN;refine AW.seq fun N2 BM=>?_;refine AW.cond rfl ?_ ?_<;>intro h1
 ·try simp only[cn]at h1
  have Mk:i+1+q<os.length:=by omega
  have hsq:=a9 (i+1+q);have e1:AV.v ((cj.getD i []).getD q []).length (List.map (AV.i IntKind.i64) ((cj.getD i []).getD q []))=vi os.length ((pc os pw cj).cj i (i+1+q)):=by
   have:=CN (h.mY (show i<i+1+q by omega) Mk);rw[show i+1+q-i-1=q by omega]at this;refine this.trans ?_;show vi _ (fl _)=vi _ (fl ((cj.getD i []).getD (i+1+q-i-1) []))
   rw[show i+1+q-i-1=q by omega]
  have tq:=hv.cj i (i+1+q) (by omega) Mk;apply AW.skip;apply BM;refine AW.seq fun N3 BQ=>?_;apply AW.block;refine sQ fun N hN=>?_;simp-dsimp-implicitDefEqProofs(disch:=omega)only[go_sem,A5,ints,rows,A4,A6,A7,AB,vi];apply hN;refine sQ fun N hN=>?_;simp-dsimp-implicitDefEqProofs(disch:=omega)only[go_sem,A5,ints,rows,A4,A6,A7,AB,vi];apply hN;apply AW.block;rw[e1]
  refine AW.AF (α:=Nat×V) (fun x=>sl 42 [(0,A5 os pw cj),(1,.i .i64 i),(2,vi os.length a),(7,.h (nx+1+2) 0 os.length),(9,vi os.length ((pc os pw cj).cj i (i+1+q))),(19,rows (cj.getD i [])),(20,.i .i64 (cj.getD i []).length),(21,.i .i64 q),(32,.i .i64 (a (i+1+q))),(33,.i .i64 x.1)]) (fun x=>AU BN (nx+1+2) (some (DM os.length x.2))) (fun x m=>(x.1≤(a (i+1+q)).toNat∧nx+4≤m)∧T (pc os pw cj) (i+1) x.2∧x.2=CW (fun w=>M (pc os pw cj) (i+1) w ((pc os pw cj).cj i (i+1+q))) x.1 u) (fun x=>(a (i+1+q)).toNat-x.1) ((0,u)) ?_ ?_ (fun _ _ h=>h) ?_
  ·exact⟨⟨Nat.zero_le _,by first|omega|(dsimp only;omega)⟩,hu,rfl⟩
  ·simp(disch:=omega) [AO,AQ,sl,A5,ints,rows,A4,vi]
  skip
  rintro⟨y,w⟩ m2 ⟨⟨hy,TI⟩,hw,P6⟩;dsimp only at hy TI hw P6;simp only[A5,vi];simp-dsimp-implicitDefEqProofs(disch:=omega)only[go_sem];refine sQ fun N hN=>?_;simp-dsimp-implicitDefEqProofs(disch:=omega)only[go_sem,A5,ints,rows,A4,A6,A7,AB,vi];apply hN;refine AW.seq fun N4 CG=>?_;refine AW.cond rfl ?_ ?_<;>intro h2
  ·try simp only[cn]at h2
   apply AW.skip;apply CG;refine AW.seq fun N5 DW=>?_;apply AW.block;apply rQ;simp-dsimp-implicitDefEqProofs(disch:=omega)only[go_sem,A5,ints,rows,A4,A6,A7,AB,vi];refine(p8 _ _ (nx+1+2) w ((pc os pw cj).cj i (i+1+q)) (A1 _ _ _) (hw.mono hv (by omega)) tq).AG ?_
   rintro m3 H1 r1 S9 rfl;rw[UE hv hw tq];try simp-dsimp-implicitDefEqProofs(disch:=omega)only[go_sem,A5,ints,rows,A4,A6,A7,AB,vi]
   apply DW;apply rQ;simp-dsimp-implicitDefEqProofs(disch:=omega)only[go_sem,A5,ints,rows,A4,A6,A7,AB,vi];refine⟨(y+1,M (pc os pw cj) (i+1) w ((pc os pw cj).cj i (i+1+q))),?_,fun _ _ h=>h,?_,?_⟩
   ·simp(disch:=omega) [AO,AQ,sl,A5,AJ,ints,rows,A4,vi]<;>omega
   ·exact⟨⟨by first|omega|(dsimp only;omega),by first|omega|(dsimp only;omega)⟩,hg.cl hw tq,by rw[P6];rfl⟩
   first|omega|(simp only;omega)
  try simp only[cn]at h2
  apply AW.exit;apply BQ;apply rQ;simp-dsimp-implicitDefEqProofs(disch:=omega)only[go_sem,A5,ints,rows,A4,A6,A7,AB,vi];refine⟨(q+1,w),?_,fun _ _ h=>h,?_,?_⟩
  ·simp(disch:=omega) [AO,AQ,sl,A5,AJ,ints,rows,A4,vi]<;>omega
  ·refine⟨⟨by first|omega|(dsimp only;omega),by first|omega|(dsimp only;omega)⟩,hw,?_⟩;show HB (M (pc os pw cj) (i+1)) ((pc os pw cj).cj i) a (os.length-(i+1)-(q+1)) (i+1+(q+1)) w=_
   rw[←hf,P6,show os.length-(i+1)-q=os.length-(i+1)-(q+1)+1 by omega,HB,show y=(a (i+1+q)).toNat by omega];rfl
  first|omega|(simp only;omega)
 try simp only[cn]at h1
 apply AW.exit;apply BC;refine sQ fun N hN=>?_;simp-dsimp-implicitDefEqProofs(disch:=omega)only[go_sem,A5,ints,rows,A4,A6,A7,AB,vi];apply hN;apply AW.ret;simp-dsimp-implicitDefEqProofs(disch:=omega)only[go_sem];rw[show os.length-(i+1)-q=0 by omega]at hf
 rw[←hf]
 exact Own.vi (A1 _ _ _) (by omega) (by omega)
end Go.Proofs.YtghmeeifjeafmaaGreat
namespace Go.Proofs.YtghmeeifjeafmaaGreat
theorem J5(n j:Nat)(hn:n≤1048576)(hj:j<n):BG Tryz.prog 141 [.i .i64 n,.i .i64 j] (vi n (un j)):=by
  have:=(OJ n j hn hj).pure;unfold Bh at this;rw[EE]at this;rwa [Hl (g:=un j) (fun k hk=>by simp only[un,AX,z0])]at this
theorem D7{os:List Int}{pw:List (List Int)}{cj:List (List (List Int))}{i:Nat}{f g:V}(hn:os.length≤1048576)(hf:T (pc os pw cj) i f)(hg:T (pc os pw cj) i g):BG Tryz.prog 100 [vi os.length f,vi os.length g] (.b (tf (f=g))):=by
  have:=ED (vec os.length f) (vec os.length g) (by rw[C1];omega) (by rw[C1];omega);rw[EE,EE]at this;rwa [RX (hf.p7 hg)]at this
theorem HU{os:List Int}{pw:List (List Int)}{cj:List (List (List Int))}(h:AI os pw cj)(i:Nat)(hc:DI (pc os pw cj) i)(a:V)(ha:T (pc os pw cj) i a)(k:Int)(h0:0≤k)(hk:k≤1099511627776):BG Tryz.prog 125 [A5 os pw cj,vi os.length a,.i .i64 k] (vi os.length (rep (M (pc os pw cj) i) a k.toNat)):=by
  have:=(WT os pw cj h i hc a ha k.toNat (by omega)).pure;rwa [Int.toNat_of_nonneg h0]at this
theorem M8(os:List Int)(pw:List (List Int))(cj:List (List (List Int)))(h:AI os pw cj)(i:Nat)(hc:DI (pc os pw cj) i)(a:V)(ha:T (pc os pw cj) i a):W9 Tryz.prog 113 [A5 os pw cj,vi os.length a] (vi os.length (inv (pc os pw cj) i a)):=by
 have hv:=h.val
 have J4:=h.1.1
 have hg:=BO hv hc
 have Ys:=(M7 os pw cj h i hc).2
 have Yt:(pc os pw cj).n=os.length:=rfl
 intro nx
 refine AC.AM A9 Tryz.func113 rfl (by kernel_rfl) Tryz.ntmps113 Tryz.results113 (fun cX=>?_)
 refine sQ fun N hN=>?_;simp-dsimp-implicitDefEqProofs(disch:=omega)only[go_sem,A5,ints,rows,A4,vi];apply hN;refine sQ fun N hN=>?_;simp-dsimp-implicitDefEqProofs(disch:=omega)only[go_sem,A5,ints,rows,A4,vi];refine(UI a (by omega) _ _).AG ?_
 rintro m1 H1 r1 MW (⟨XO,rfl,g1,g2,rfl⟩|⟨h0,rfl,rfl⟩)
 ·skip
  try simp-dsimp-implicitDefEqProofs(disch:=omega)only[go_sem,]
  apply hN;refine sQ fun N hN=>?_;simp-dsimp-implicitDefEqProofs(disch:=omega)only[go_sem,A5,ints,rows,A4,vi];apply hN;refine AW.seq fun N1 BC=>?_;refine sQ fun N hN=>?_;simp-dsimp-implicitDefEqProofs(disch:=omega)only[go_sem,A5,ints,rows,A4,vi];apply hN;apply AW.block;refine AW.AF (α:=Nat×V×V) (fun x=>sl 33 [(0,A5 os pw cj),(5,.h XO 0 os.length),(6,.h (m1+2) 0 os.length),(14,.i .i64 os.length),(15,.i .i64 x.1)]) (fun x=>AU (AU BN XO (some (DM os.length x.2.1))) (m1+2) (some (DM os.length x.2.2))) (fun x m=>(x.1≤os.length∧m1+4≤m)∧T (pc os pw cj) i x.2.1∧T (pc os pw cj) i x.2.2∧M (pc os pw cj) i a x.2.2=x.2.1∧∀t,t<x.1→x.2.1 t=0) (fun x=>os.length-x.1) ((0,a,z0)) ?_ ?_ (by rw[CA];exact Le.refl _) ?_
  ·exact⟨⟨Nat.zero_le _,by first|omega|(dsimp only;omega)⟩,ha,hg.e0,hg.r1 ha,by intro t ht;omega⟩
  ·simp(disch:=omega) [AO,AQ,sl,A5,ints,rows,A4,vi]
  skip
  rintro⟨k,r,o⟩ m ⟨⟨hk,hm⟩,hr,ho,Bl,hz⟩;dsimp only at hk hm hr ho Bl hz;simp only[A5,vi];simp-dsimp-implicitDefEqProofs(disch:=omega)only[go_sem];refine sQ fun N hN=>?_;simp-dsimp-implicitDefEqProofs(disch:=omega)only[go_sem,A5,ints,rows,A4,vi];apply hN;refine AW.seq fun N2 BM=>?_;refine AW.cond rfl ?_ ?_<;>intro h1
  ·try simp only[cn]at h1
   apply AW.skip;apply BM;refine AW.seq fun N3 BQ=>?_;apply AW.block;refine sQ fun N hN=>?_;simp-dsimp-implicitDefEqProofs(disch:=omega)only[go_sem,A5,ints,rows,A4,vi];apply hN;apply AW.block;refine AW.AF (α:=V×V) (fun x=>sl 33 [(0,A5 os pw cj),(5,.h XO 0 os.length),(6,.h (m1+2) 0 os.length),(7,.i .i64 k),(14,.i .i64 os.length),(15,.i .i64 k)]) (fun x=>AU (AU BN XO (some (DM os.length x.1))) (m1+2) (some (DM os.length x.2))) (fun x m=>(m1+4≤m)∧T (pc os pw cj) i x.1∧T (pc os pw cj) i x.2∧M (pc os pw cj) i a x.2=x.1∧∀t,t<k→x.1 t=0) (fun x=>if x.1 k=0 then 0 else ((pc os pw cj).o k-x.1 k).toNat) ((r,o)) ?_ ?_ (fun _ _ h=>h) ?_
   ·exact⟨by first|omega|(dsimp only;omega),hr,ho,Bl,hz⟩
   ·simp(disch:=omega) [AO,AQ,sl,A5,ints,rows,A4,vi]
   skip
   rintro⟨r,o⟩ m ⟨hm,hr,ho,Bl,hz⟩;dsimp only at hm hr ho Bl hz;simp only[A5,vi];simp-dsimp-implicitDefEqProofs(disch:=omega)only[go_sem];refine AW.seq fun N4 CG=>?_;refine sQ fun N hN=>?_;simp-dsimp-implicitDefEqProofs(disch:=omega)only[go_sem,A5,ints,rows,A4,vi];apply hN;refine AW.cond rfl ?_ ?_<;>intro h2
   ·(try simp only[cn]at h2);have T5:i≤k:=by
     apply Classical.byContradiction;intro hn;exact h2 (hr.z k (by omega))
    have hrk:=hr.r k T5 (by omega);have tu:=lB hv (Nat.le_refl k) (show k<(pc os pw cj).n by omega);have e1:app (pc os pw cj) k r (un k)=M (pc os pw cj) i r (un k):=by rw[←eG hv T5 (hr.mono hv (by omega)) tu,UE hv hr (tu.mono hv T5)]
    have e2:app (pc os pw cj) k o (un k)=M (pc os pw cj) i o (un k):=by rw[←eG hv T5 (ho.mono hv (by omega)) tu,UE hv ho (tu.mono hv T5)]
    have e3:app (pc os pw cj) k r (un k) k=(Hk (pc os pw cj) k r).1:=by rw[oZ hv (by omega) (BO hv (hc.mono (by omega))) (hr.mono hv (by omega)),C6]
    apply AW.skip;apply CG;apply AW.block;refine sQ fun N hN=>?_;simp-dsimp-implicitDefEqProofs(disch:=omega)only[go_sem,A5,ints,rows,A4,vi];refine(Ys k T5 (by omega) _ _ XO r (by simp(disch:=omega)only[A1,A0]) (hr.mono hv (by omega))).AG ?_
    rintro m2 H2 r2 TI rfl;try simp-dsimp-implicitDefEqProofs(disch:=omega)only[go_sem,A5,ints,rows,A4,vi]
    apply hN;apply rQ;simp-dsimp-implicitDefEqProofs(disch:=omega)only[go_sem,A5,ints,rows,A4,vi];refine(Ys k T5 (by omega) _ _ (m1+2) o (by simp(disch:=omega)only[A1,A0]) (ho.mono hv (by omega))).AG ?_;rintro m3 H3 r3 S9 rfl;try simp-dsimp-implicitDefEqProofs(disch:=omega)only[go_sem,A5,ints,rows,A4,vi]
    refine⟨(app (pc os pw cj) k r (un k),app (pc os pw cj) k o (un k)),?_,by intro d cs hd;simp only[AU,BN]at hd ⊢;grind,?_,?_⟩
    ·simp(disch:=omega) [AO,AQ,sl,A5,AJ,ints,rows,A4,vi]<;>omega
    ·first|refine⟨by first|omega|(dsimp only;omega),?_,?_,?_,?_⟩|refine⟨?_,?_,?_,?_⟩
     ·rw[e1];exact hg.cl hr (tu.mono hv T5)
     ·rw[e2];exact hg.cl ho (tu.mono hv T5)
     ·rw[e1,e2,←Bl,hg.ac ha ho (tu.mono hv T5)]
     intro t ht;show(if t<k then r t else _)=0;rw[if_pos ht];exact hz t ht
    (simp only[e3,if_neg h2];unfold Hk;split<;>split<;>simp_all<;>omega)
   try simp only[cn]at h2
   apply AW.exit;apply BQ;apply rQ;simp-dsimp-implicitDefEqProofs(disch:=omega)only[go_sem,A5,ints,rows,A4,vi];refine⟨(k+1,r,o),?_,fun _ _ h=>h,?_,?_⟩
   ·simp(disch:=omega) [AO,AQ,sl,A5,AJ,ints,rows,A4,vi]<;>omega
   ·refine⟨⟨by first|omega|(dsimp only;omega),by first|omega|(dsimp only;omega)⟩,hr,ho,Bl,fun t ht=>?_⟩;by_cases e:t=k
    ·subst e;exact h2
    exact hz t (by first|omega|(dsimp only;omega))
   first|omega|(simp only;omega)
  try simp only[cn]at h1
  apply AW.exit;apply BC;refine sQ fun N hN=>?_;simp-dsimp-implicitDefEqProofs(disch:=omega)only[go_sem,A5,ints,rows,A4,vi];apply hN;apply AW.ret;simp-dsimp-implicitDefEqProofs(disch:=omega)only[go_sem];have hrz:r=z0:=by
   funext t
   by_cases e:t<os.length
   ·exact hz t (by omega)
   exact hr.t t (by omega)
  rw[hrz]at Bl;rw[←inv_eq hg ha ho Bl];exact Own.vi (A1 _ _ _) (by omega) (by omega)
 skip
 try simp-dsimp-implicitDefEqProofs(disch:=omega)only[go_sem,]
 apply hN;refine sQ fun N hN=>?_;simp-dsimp-implicitDefEqProofs(disch:=omega)only[go_sem,A5,ints,rows,A4,vi];apply hN;refine AW.seq fun N5 DW=>?_;refine sQ fun N hN=>?_;simp-dsimp-implicitDefEqProofs(disch:=omega)only[go_sem,A5,ints,rows,A4,vi];apply hN;apply AW.block;refine AW.AF (α:=Nat) (fun x=>sl 33 [(0,A5 os pw cj),(5,.v 0 []),(6,.h (m1+2) 0 os.length),(14,.i .i64 0),(15,.i .i64 0)]) (fun _=>AU BN (m1+2) (some (DM os.length z0))) (fun x m=>m1+4≤m) (fun x=>0) (0) ?_ ?_ (by rw[CA];exact Le.refl _) ?_
 ·first|omega|(dsimp only;omega)
 ·simp(disch:=omega) [AO,AQ,sl,A5,ints,rows,A4,vi]
 skip
 rintro k m hk
 simp only[A5,vi];simp-dsimp-implicitDefEqProofs(disch:=omega)only[go_sem];refine sQ fun N hN=>?_;simp-dsimp-implicitDefEqProofs(disch:=omega)only[go_sem,A5,ints,rows,A4,vi];apply hN;refine AW.seq fun N6 HC=>?_;refine AW.cond rfl ?_ ?_<;>intro h3
 ·try simp only[cn]at h3
  exfalso;omega
 try simp only[cn]at h3
 apply AW.exit;apply DW;refine sQ fun N hN=>?_;simp-dsimp-implicitDefEqProofs(disch:=omega)only[go_sem,A5,ints,rows,A4,vi];apply hN;apply AW.ret;simp-dsimp-implicitDefEqProofs(disch:=omega)only[go_sem];exact Own.vi (by rw[A1,FJ (f:=z0) (g:=inv (pc os pw cj) i a) (fun t ht=>by omega)]) (by omega) (by omega)
theorem FL(os:List Int)(pw:List (List Int))(cj:List (List (List Int)))(h:AI os pw cj)(i:Nat)(hc:DI (pc os pw cj) i)(a b:V)(ha:T (pc os pw cj) i a)(hb:T (pc os pw cj) i b):W9 Tryz.prog 140 [A5 os pw cj,vi os.length a,vi os.length b] (vi os.length (M (pc os pw cj) i (inv (pc os pw cj) i b) (M (pc os pw cj) i a b))):=by
 have hv:=h.val
 have hg:=BO hv hc
 intro nx
 refine AC.AM A9 Tryz.func140 rfl (by kernel_rfl) Tryz.ntmps140 Tryz.results140 (fun cX=>?_)
 refine sQ fun N hN=>?_;simp-dsimp-implicitDefEqProofs(disch:=omega)only[go_sem,];apply hN;refine sQ fun N hN=>?_;simp-dsimp-implicitDefEqProofs(disch:=omega)only[go_sem,];refine AC.pure (.of ((M8 os pw cj h i hc b hb).pure)) ?_;try simp-dsimp-implicitDefEqProofs(disch:=omega)only[go_sem,]
 refine AC.pure (.of ((BX os pw cj h i hc a b ha hb).pure)) ?_;try simp-dsimp-implicitDefEqProofs(disch:=omega)only[go_sem,]
 refine AC.own (BX os pw cj h i hc _ _ (DY hg hb).1 (hg.cl ha hb)) WK.rfl ?_
 intro m1 H1 r1 xC MW hH1 HN
 try simp-dsimp-implicitDefEqProofs(disch:=omega)only[go_sem,]
 apply hN;apply AW.ret;simp-dsimp-implicitDefEqProofs(disch:=omega)only[go_sem];exact⟨xC,HN.AD (fun _ _ _=>rfl) (by omega) (by omega)⟩
end Go.Proofs.YtghmeeifjeafmaaGreat
