import Derived.Test.YtghmeeifjeafmaaGreatZ23
set_option linter.unusedVariables false
set_option linter.unusedSimpArgs false
namespace Go.Proofs.YtghmeeifjeafmaaGreat
def CpV(n:Nat)(nx nx':Nat)(H H':HP)(r:AV)(a:List V):Prop:=(∃id,r= .h id 0 a.length∧nx≤id∧id<nx'∧H'=AU H id (some (a.map (vi n))))∨(a.length=0∧r= .v 0 []∧H'=H)
theorem JR(n:Nat)(a:List V)(ha:a.length≤1099511627776)(nx:Nat)(H:HP):AC Tryz.prog 121 nx H [B2 n a] (fun nx' H' r=>CpV n nx nx' H H' r a):=by
  refine AC.Rq ?_;refine AC.C2 A9 Tryz.func121 rfl (by kernel_rfl) Tryz.ntmps121 Tryz.results121 (fun C7 cX=>?_);refine sQ fun N hN=>?_;simp-dsimp-implicitDefEqProofs(maxSteps:=800000) (disch:=omega)only[go_sem,B2];apply hN;refine AW.seq fun N1 BC=>?_;refine sQ fun N hN=>?_;simp-dsimp-implicitDefEqProofs(maxSteps:=800000) (disch:=omega)only[go_sem,B2];refine⟨⟨_,_,rfl,rfl⟩,⟨fun h0=>?_,?_⟩⟩
  · apply hN;refine AW.DX rfl ?_;refine sQ fun N hN=>?_;simp-dsimp-implicitDefEqProofs(maxSteps:=800000) (disch:=omega)only[go_sem,];apply hN;apply AW.ret;simp-dsimp-implicitDefEqProofs(maxSteps:=800000) (disch:=omega)only[go_sem];exact⟨H,Le.refl _,.inr (.inr ⟨h0,rfl,rfl⟩)⟩
  apply hN;refine AW.C8 rfl ?_;apply AW.skip;apply BC;refine sQ fun N hN=>?_;simp-dsimp-implicitDefEqProofs(maxSteps:=800000) (disch:=omega)only[go_sem,B2,AR];apply hN;apply AW.ret;simp-dsimp-implicitDefEqProofs(maxSteps:=800000) (disch:=omega)only[go_sem];refine⟨_,?_,.inl (.inl ⟨_,rfl,?_,?_,rfl⟩)⟩
  · intro i c hi;have BW:H i=some c→i<nx:=fun h=>by apply Classical.byContradiction;intro hn;rw[C7 i (by omega)]at h;cases h
    simp only[AU]at hi ⊢;split at hi
    · rename_i e;subst e;cases hi;repeat (first|rw[if_pos rfl]|rw[if_neg (by omega)])
    have:=BW hi;repeat rw[if_neg (by omega)]
    exact hi
  · omega
  omega
theorem BP{pre cs:List AV}:(pre++cs).getD pre.length .j=cs.getD 0 .j:=by
  simp only[List.getD_eq_getElem?_getD];rw[List.getElem?_append_right (Nat.le_refl _),Nat.sub_self]
theorem B7{n:Nat}{pre:List AV}{a:AV}{Q:List V}:List.take Q.length (List.drop (pre.length+1) (pre++a::Q.map (vi n)))=Q.map (vi n):=by
  rw[List.drop_append,List.drop_eq_nil_of_le (by omega),List.nil_append,show pre.length+1-pre.length=1 by omega];exact List.take_of_length_le (by simp)
noncomputable def yO(P:Pc)(t:Nat→Option V)(us:List V):Nat→Option V:=qE P (P8 P t us) t us
theorem yP{P:Pc}{s:Nat×V}(h:0≤LH (P.o s.1) (s.2 s.1)):rep (M P 0) s.2 (LH (P.o s.1) (s.2 s.1)).toNat=P7 P s:=by
  unfold P7 LL;rw[if_neg (by omega)]
theorem yQ{P:Pc}{y:V}{k:Int}(h:0≤k):rep (M P 0) y k.toNat=LL P y k:=by
  unfold LL;rw[if_neg (by omega)]
theorem jI{H G:HP}{nx b e:Nat}{d c:Option (List AV)}(C7:∀i,nx≤i→H i=none)(he:G e=c)(hbe:b≠e)(hG:∀i,i<nx→i≠e→G i=H i):Le (AU (AU H e c) b d) (AU G b d):=by
  intro i f hi;by_cases hb:i=b
  · subst hb;rw[A1]at hi ⊢;exact hi
  rw[A0 _ _ hb]at hi ⊢;by_cases h1:i=e
  · subst h1;rw[A1]at hi;rw[he];exact hi
  rw[A0 _ _ h1]at hi;by_cases hn:i<nx
  · rw[hG i hn h1];exact hi
  rw[C7 i (by omega)]at hi;cases hi
theorem jJ{H G:HP}{nx b e:Nat}{d d' c:Option (List AV)}(C7:∀i,nx≤i→H i=none)(hd:d=d')(he:G e=c)(hbe:b≠e)(hG:∀i,i<nx→i≠e→G i=H i):Le (AU (AU H e c) b d) (AU G b d'):=by
  subst hd;exact jI C7 he hbe hG
section
variable(os:List Int)(pw:List (List Int))(cj:List (List (List Int)))
set_option maxRecDepth 20000 in
set_option maxHeartbeats 4000000 in
theorem bU(h:AI os pw cj)(hc:DI (pc os pw cj) 0)(t0:Nat→Option V)(CT:LN (pc os pw cj) t0)(us:List V)(hl:us.length≤1000)(A3R:0<us.length)(hu:∀x∈us,T (pc os pw cj) 0 x)(nx:Nat)(H:HP)(ids HD:Nat)(AL:ids≠HD)(D2:H ids=some [A5 os pw cj,.h HD 0 os.length])(CR:H HD=some (WE os.length t0)):AC Tryz.prog 81 nx H [.q ids 0,B2 os.length us] (fun _ H' r=>r= .b (tf (yO (pc os pw cj) t0 us≠t0))∧H'=AU H HD (some (WE os.length (yO (pc os pw cj) t0 us)))):=by
 have J4:=h.1.1
 have hv:=h.val
 have J2:=h.2.1
 have LV:(pc os pw cj).n=os.length:=rfl
 have xK:P8 (pc os pw cj) t0 us≤2000:=by
  have h1:bF t0 os.length*(os.length+3)≤6*9:=Nat.mul_le_mul (Nat.le_trans (pY _) J4) (by omega);show bF t0 os.length*(os.length+3)+us.length≤2000
  omega
 obtain⟨R,hR⟩:∃R,yO (pc os pw cj) t0 us=R:=⟨_,rfl⟩
 rw[hR]
 refine AC.C2 A9 Tryz.func81 rfl (by kernel_rfl) Tryz.ntmps81 Tryz.results81 (fun C7 cX=>?_)
 have A1S:ids<nx:=by
  apply Classical.byContradiction;intro hn;rw[C7 ids (by omega)]at D2;cases D2
 have A1T:HD<nx:=by
  apply Classical.byContradiction;intro hn;rw[C7 HD (by omega)]at CR;cases CR
 refine sQ fun N hN=>?_;simp-dsimp-implicitDefEqProofs(maxSteps:=800000) (disch:=omega)only[go_sem,A5,vi,ints,A6,D2,CR,AH,AS,AE,B8,eq_self,AN,AR,B1,Nat.min_self,BP,B7,B2,Int.toNat_one,Nat.add_sub_cancel]
 apply hN;refine sQ fun N hN=>?_;simp-dsimp-implicitDefEqProofs(maxSteps:=800000) (disch:=omega)only[go_sem,A5,vi,ints,A6,D2,CR,AH,AS,AE,B8,eq_self,AN,AR,B1,Nat.min_self,BP,B7,B2,Int.toNat_one,Nat.add_sub_cancel]
 apply hN;refine sQ fun N hN=>?_;simp-dsimp-implicitDefEqProofs(maxSteps:=800000) (disch:=omega)only[go_sem,A5,vi,ints,A6,D2,CR,AH,AS,AE,B8,eq_self,AN,AR,B1,Nat.min_self,BP,B7,B2,Int.toNat_one,Nat.add_sub_cancel]
 refine(JR os.length us (by omega) _ _).AG ?_
 rintro Mq H1 r mZ (⟨Nc,rfl,pZ,xW,rfl⟩|⟨h0,-,-⟩)
 rotate_left
 ·omega
 try simp-dsimp-implicitDefEqProofs(maxSteps:=800000) (disch:=omega)only[go_sem,A5,vi,ints,A6,D2,CR,AH,AS,AE,B8,eq_self,AN,AR,B1,Nat.min_self,BP,B7,B2,Int.toNat_one,Nat.add_sub_cancel]
 apply hN;refine AW.seq fun N1 BC=>?_;apply AW.block;refine AW.AF (α:=(Nat→Option V)×List V×Nat×List AV×Nat) (fun x=>sl 109 [(0,.q ids 0),(5,.b (tf (x.1≠t0))),(6,.h x.2.2.1 x.2.2.2.1.length x.2.1.length)]) (fun x=>AU (AU H HD (some (WE os.length x.1))) x.2.2.1 (some (x.2.2.2.1++x.2.1.map (vi os.length)))) (fun x m=>(nx≤x.2.2.1∧x.2.2.1<m∧x.2.2.2.2≤2000)∧LN (pc os pw cj) x.1∧(∀y∈x.2.1,T (pc os pw cj) 0 y)∧(∀d y,t0 d=some y→x.1 d=some y)∧P8 (pc os pw cj) x.1 x.2.1≤x.2.2.2.2∧qE (pc os pw cj) x.2.2.2.2 x.1 x.2.1=R) (fun x=>x.2.2.2.2) ((t0,us,Nc,[],P8 (pc os pw cj) t0 us)) ?_ ?_ (by dsimp only;rw[List.nil_append];exact jI C7 CR (by omega) (fun i h1 h2=>rfl)) ?_
 ·exact⟨⟨by first|omega|(dsimp only;omega),by first|omega|(dsimp only;omega),xK⟩,CT,hu,fun _ _ q=>q,Nat.le_refl _,hR⟩
 ·simp(disch:=omega) [AO,AQ,sl,tf]<;>omega
 skip
 rintro⟨t,Q,id,pre,f⟩ m ⟨⟨DA,Ty,hf9⟩,hG,hQ,hx,hM,hC⟩
 dsimp only at DA Ty hf9 hG hQ hx hM hC ⊢
 simp-dsimp-implicitDefEqProofs(maxSteps:=800000) (disch:=omega)only[go_sem];refine AW.seq fun N2 BM=>?_;refine sQ fun N hN=>?_;simp-dsimp-implicitDefEqProofs(maxSteps:=800000) (disch:=omega)only[go_sem,A5,vi,ints,A6,D2,CR,AH,AS,AE,B8,eq_self,AN,AR,B1,Nat.min_self,BP,B7,B2,Int.toNat_one,Nat.add_sub_cancel]
 apply hN;refine AW.cond rfl ?_ ?_<;>intro h1
 ·try simp only[cn]at h1
  obtain⟨a,Q',rfl⟩:∃a Q',Q=a::Q':=by
   cases Q with
   |nil=>simp at h1
   |cons a Q'=>exact⟨a,Q',rfl⟩
  have uE:=hQ a List.mem_cons_self;have hQ':∀y∈Q',T (pc os pw cj) 0 y:=fun y hy=>hQ y (List.mem_cons_of_mem _ hy)
  have hQl:Q'.length≤2000:=by unfold P8 at hM;simp at hM;omega
  obtain⟨i2,i3,i4⟩:=UY hv hc hG uE;have MC:=j4 hv hc hG (q:=Q') uE;have Nd:=qG hv hc (fun d hd=>J2 d hd) hG hQ' uE;have yR:=Jb hv hc hG uE;obtain⟨f',hf⟩:∃f',f=f'+1:=⟨f-1,by unfold P8 at hM;simp at hM;omega⟩;subst hf;have PA:=hC;rw[qE,if_neg (by simp)]at PA;rw[show(a::Q').drop 1=Q' from rfl,show(a::Q').getD 0 z0=a from rfl]at PA;have hMl:bF t (pc os pw cj).n*((pc os pw cj).n+3)+(Q'.length+1)≤f'+1:=by unfold P8 at hM;simpa using hM
  have Jc:=Z6 os pw cj h hc t hG a uE;obtain⟨⟨sd,su⟩,hs⟩:∃s,OT (pc os pw cj) t a=s:=⟨_,rfl⟩;rw[hs]at i2 i3 i4 MC PA yR Jc Nd;rw[LV]at i2 i4 yR;dsimp only at i2 i3 i4 yR Jc;apply AW.skip;apply BM;apply AW.block;refine sQ fun N hN=>?_;simp-dsimp-implicitDefEqProofs(maxSteps:=800000) (disch:=omega)only[go_sem,A5,vi,ints,A6,D2,CR,AH,AS,AE,B8,eq_self,AN,AR,B1,Nat.min_self,BP,B7,B2,Int.toNat_one,Nat.add_sub_cancel]
  refine(Jc _ _ ids HD (by simp(disch:=omega)only[A0];exact D2) (by simp(disch:=omega)only[A0,A1])).AG ?_;rintro m1 H1 r1 MW ⟨rfl,rfl⟩;try simp-dsimp-implicitDefEqProofs(maxSteps:=800000) (disch:=omega)only[go_sem,A5,vi,ints,A6,D2,CR,AH,AS,AE,B8,eq_self,AN,AR,B1,Nat.min_self,BP,B7,B2,Int.toNat_one,Nat.add_sub_cancel]
  apply hN;refine sQ fun N hN=>?_;simp-dsimp-implicitDefEqProofs(maxSteps:=800000) (disch:=omega)only[go_sem,A5,vi,ints,A6,D2,CR,AH,AS,AE,B8,eq_self,AN,AR,B1,Nat.min_self,BP,B7,B2,Int.toNat_one,Nat.add_sub_cancel]
  apply hN;refine sQ fun N hN=>?_;simp-dsimp-implicitDefEqProofs(maxSteps:=800000) (disch:=omega)only[go_sem,A5,vi,ints,A6,D2,CR,AH,AS,AE,B8,eq_self,AN,AR,B1,Nat.min_self,BP,B7,B2,Int.toNat_one,Nat.add_sub_cancel]
  have u9:=IG os.length (by omega) su;rw[yR]at u9;refine AC.pure (.of (u9)) ?_;try simp-dsimp-implicitDefEqProofs(maxSteps:=800000) (disch:=omega)only[go_sem,A5,vi,ints,A6,D2,CR,AH,AS,AE,B8,eq_self,AN,AR,B1,Nat.min_self,BP,B7,B2,Int.toNat_one,Nat.add_sub_cancel]
  apply hN;refine AW.seq fun N3 BQ=>?_;refine sQ fun N hN=>?_;simp-dsimp-implicitDefEqProofs(maxSteps:=800000) (disch:=omega)only[go_sem,A5,vi,ints,A6,D2,CR,AH,AS,AE,B8,eq_self,AN,AR,B1,Nat.min_self,BP,B7,B2,Int.toNat_one,Nat.add_sub_cancel]
  apply hN;refine AW.cond rfl ?_ ?_<;>intro h2
  ·try simp only[cn]at h2
   have tY:bL (pc os pw cj) t Q' (sd,su)=(t,Q'):=by rw[bL,if_pos (show sd=(pc os pw cj).n from (by show sd=os.length;omega))]
   rw[tY]at PA MC;apply AW.exit;simp only[aO,D1,if_true];refine⟨(t,Q',id,pre++[vi os.length a],f'),?_,by dsimp only;rw[List.append_assoc];exact Le.refl _,?_,?_⟩
   ·first|(simp(disch:=omega) [AO,AQ,sl,Jd]<;>omega)|(simp(disch:=omega) [AO,AQ,sl]<;>omega)
   ·exact⟨⟨by first|omega|(dsimp only;omega),by first|omega|(dsimp only;omega),by first|omega|(dsimp only;omega)⟩,hG,hQ',hx,by (try (dsimp only at MC ⊢));omega,PA⟩
   first|omega|(simp only;omega)
  try simp only[cn]at h2
  have O0:sd<os.length:=by omega
  obtain⟨j1,j2⟩:=i4 O0;have hr:=i3.r sd (Nat.le_refl _) O0;have lN:(pc os pw cj).o sd=os.getD sd 0:=rfl;have iX:=J2 sd O0;have mX:=D0 iX;have Su:=i3.mono hv (Nat.zero_le _);obtain⟨v1,v2,v3⟩:=PX iX (show 1≤su sd by omega) (by omega);obtain⟨Mw,yl⟩:=RA hv hc (fun d hd=>J2 d hd) (s:=(sd,su)) O0 i3 j2;have I4:=Mw.mono hv (Nat.zero_le _);have Mx:=HU h 0 hc su Su (LH (os.getD sd 0) (su sd)) (by omega) (by omega);have E6:rep (M (pc os pw cj) 0) su (LH (os.getD sd 0) (su sd)).toNat=P7 (pc os pw cj) (sd,su):=yP (P:=pc os pw cj) (s:=(sd,su)) (show 0≤LH (os.getD sd 0) (su sd) by omega);rw[E6]at Mx;obtain⟨y,hy⟩:∃y,P7 (pc os pw cj) (sd,su)=y:=⟨_,rfl⟩;rw[hy]at I4 Mw yl Mx;have Yy:=HU h 0 hc y I4 (os.getD sd 0) (by omega) (by omega);rw[yQ (by omega)]at Yy;have n6:B0 (WE os.length t) sd [AV.v os.length (DM os.length y)]=WE os.length (oset t sd y):=jG O0;have tY:bL (pc os pw cj) t Q' (sd,su)=(oset t sd y,Q'++[su]++[LL (pc os pw cj) y (os.getD sd 0)]++MD (pc os pw cj) t y os.length):=by
   rw[bL,if_neg (show ¬sd=(pc os pw cj).n from (by show ¬sd=os.length;omega)),hy];rfl
  rw[tY]at PA MC Nd;have yS:tf (oset t sd y≠t0)=true:=EN (fun e=>by
   have e1:=congrFun e sd;unfold oset at e1;rw[if_pos rfl]at e1;have e2:=hx sd y e1.symm;rw[j1]at e2;cases e2)
  have Jd:tf (¬oset t sd y=t0)=true:=yS;have iQ:∀d z,t0 d=some z→oset t sd y d=some z:=fun d z hz=>by
   unfold oset;rw[if_neg (fun e=>by have:=hx d z hz;rw[e,j1]at this;cases this)];exact hx d z hz
  apply AW.skip;apply BQ;refine sQ fun N hN=>?_;simp-dsimp-implicitDefEqProofs(maxSteps:=800000) (disch:=omega)only[go_sem,A5,vi,ints,A6,D2,CR,AH,AS,AE,B8,eq_self,AN,AR,B1,Nat.min_self,BP,B7,B2,Int.toNat_one,Nat.add_sub_cancel]
  apply hN;refine AW.seq fun N hN=>?_;refine AW.BI A9 (by kernel_rfl) 20 (by kernel_rfl) ?_
  simp-dsimp-implicitDefEqProofs(maxSteps:=800000) (disch:=omega)only[B3,B4,BH,List.take_succ_cons,List.take_zero,List.drop_succ_cons,List.drop_zero,List.take_nil,List.drop_nil,go_sem,undef,A5,AJ,vi,ints,A6,D2,CR,AH,AS,AE,B8,eq_self,AN,AR,B1,Nat.min_self,BP,B7,B2,Int.toNat_one,Nat.add_sub_cancel];refine⟨_,.of (OU (su sd) (os.getD sd 0) iX (by omega) (by omega)),?_⟩;try simp-dsimp-implicitDefEqProofs(maxSteps:=800000) (disch:=omega)only[go_sem,A5,vi,ints,A6,D2,CR,AH,AS,AE,B8,eq_self,AN,AR,B1,Nat.min_self,BP,B7,B2,Int.toNat_one,Nat.add_sub_cancel]
  apply hN;refine sQ fun N hN=>?_;simp-dsimp-implicitDefEqProofs(maxSteps:=800000) (disch:=omega)only[go_sem,A5,vi,ints,A6,D2,CR,AH,AS,AE,B8,eq_self,AN,AR,B1,Nat.min_self,BP,B7,B2,Int.toNat_one,Nat.add_sub_cancel]
  apply hN;refine sQ fun N hN=>?_;simp-dsimp-implicitDefEqProofs(maxSteps:=800000) (disch:=omega)only[go_sem,A5,vi,ints,A6,D2,CR,AH,AS,AE,B8,eq_self,AN,AR,B1,Nat.min_self,BP,B7,B2,Int.toNat_one,Nat.add_sub_cancel]
  refine AC.pure (.of (Mx)) ?_;try simp-dsimp-implicitDefEqProofs(maxSteps:=800000) (disch:=omega)only[go_sem,A5,vi,ints,A6,D2,CR,AH,AS,AE,B8,eq_self,AN,AR,B1,Nat.min_self,BP,B7,B2,Int.toNat_one,Nat.add_sub_cancel]
  apply hN;refine AW.seq fun N hN=>?_;refine AW.BI A9 (by kernel_rfl) 18 (by kernel_rfl) ?_
  simp-dsimp-implicitDefEqProofs(maxSteps:=800000) (disch:=omega)only[B3,B4,BH,List.take_succ_cons,List.take_zero,List.drop_succ_cons,List.drop_zero,List.take_nil,List.drop_nil,go_sem,undef,A5,AJ,vi,ints,A6,D2,CR,AH,AS,AE,B8,eq_self,AN,AR,B1,Nat.min_self,BP,B7,B2,Int.toNat_one,Nat.add_sub_cancel];refine⟨_,.of (Yy),?_⟩;try simp-dsimp-implicitDefEqProofs(maxSteps:=800000) (disch:=omega)only[go_sem,A5,vi,ints,A6,D2,CR,AH,AS,AE,B8,eq_self,AN,AR,B1,Nat.min_self,BP,B7,B2,Int.toNat_one,Nat.add_sub_cancel]
  apply hN;refine AW.seq fun N4 CG=>?_;refine sQ fun N hN=>?_;simp-dsimp-implicitDefEqProofs(maxSteps:=800000) (disch:=omega)only[go_sem,A5,vi,ints,A6,D2,CR,AH,AS,AE,B8,eq_self,AN,AR,B1,Nat.min_self,BP,B7,B2,Int.toNat_one,Nat.add_sub_cancel]
  apply hN;apply AW.block;refine AW.AF (α:=Nat×Nat×List V) (fun x=>sl 109 [(0,.q ids 0),(5,.b true),(6,.h x.2.1 0 x.2.2.length),(7,vi os.length y),(8,.i .i64 sd),(82,.h HD 0 os.length),(83,.i .i64 os.length),(84,.i .i64 x.1)]) (fun x=>AU (AU H HD (some (WE os.length t))) x.2.1 (some (x.2.2.map (vi os.length)))) (fun x m=>(x.1≤os.length∧nx≤x.2.1∧x.2.1<m)∧x.2.2=Q'++[su]++[LL (pc os pw cj) y (os.getD sd 0)]++MD (pc os pw cj) t y x.1) (fun x=>os.length-x.1) ((0,m1+3+3+4+1+20+5+8+18,Q'++[su]++[LL (pc os pw cj) y (os.getD sd 0)])) ?_ ?_ (by exact jJ C7 (by dsimp only;rw[List.take_of_length_le (by simp)];simp[vi]) (by simp(disch:=omega)only[A0,A1]) (by first|omega|(dsimp only;omega)) (fun i h1 h2=>by simp(disch:=omega)only[A0])) ?_
  ·exact⟨⟨by omega,by first|omega|(dsimp only;omega),by first|omega|(dsimp only;omega)⟩,by simp[MD]⟩
  ·simp(disch:=omega) [AO,AQ,sl,yS,vi]<;>omega
  skip
  rintro⟨e,uC,K⟩ m2 ⟨⟨he,xX,Ij⟩,hK⟩;all_goals dsimp only at he xX Ij hK
  have UF:=bM (P:=pc os pw cj) (t:=t) (y:=y) e;have Sp:K.length≤3000:=by rw[hK];simp only[List.length_append,List.length_cons,List.length_nil];omega
  by_cases hb:t e=none
  ·skip
   have RV:=Q1 hb;have XQ:MD (pc os pw cj) t y (e+1)=MD (pc os pw cj) t y e:=by rw[MD,hb]
   simp-dsimp-implicitDefEqProofs(maxSteps:=800000) (disch:=omega)only[go_sem];refine sQ fun N hN=>?_;simp-dsimp-implicitDefEqProofs(maxSteps:=800000) (disch:=omega)only[go_sem,A5,vi,ints,A6,D2,CR,AH,AS,AE,B8,eq_self,AN,AR,B1,Nat.min_self,BP,B7,B2,Int.toNat_one,Nat.add_sub_cancel]
   apply hN;refine AW.seq fun N5 DW=>?_;refine AW.cond rfl ?_ ?_<;>intro h3
   ·(try simp only[cn]at h3);apply AW.skip;apply DW;refine AW.seq fun N6 HC=>?_;apply AW.block;refine sQ fun N hN=>?_;simp-dsimp-implicitDefEqProofs(maxSteps:=800000) (disch:=omega)only[go_sem,A5,vi,ints,A6,D2,CR,AH,AS,AE,B8,eq_self,AN,AR,B1,Nat.min_self,BP,B7,B2,Int.toNat_one,Nat.add_sub_cancel]
    apply hN;refine sQ fun N hN=>?_;simp-dsimp-implicitDefEqProofs(maxSteps:=800000) (disch:=omega)only[go_sem,A5,vi,ints,A6,D2,CR,AH,AS,AE,B8,eq_self,AN,AR,B1,Nat.min_self,BP,B7,B2,Int.toNat_one,Nat.add_sub_cancel]
    apply hN;refine AW.cond rfl ?_ ?_<;>intro h4
    ·(try simp only[cn]at h4);first|done|(cases h4)|(exact absurd h4 (by simp))
    (try simp only[cn]at h4);apply AW.skip;apply HC;apply rQ;simp-dsimp-implicitDefEqProofs(maxSteps:=800000) (disch:=omega)only[go_sem,A5,vi,ints,A6,D2,CR,AH,AS,AE,B8,eq_self,AN,AR,B1,Nat.min_self,BP,B7,B2,Int.toNat_one,Nat.add_sub_cancel];refine⟨(e+1,uC,K),?_,fun _ _ h=>h,?_,?_⟩
    ·simp(disch:=omega) [AO,AQ,sl,yS,AJ,vi]<;>omega
    ·exact⟨⟨by first|omega|(dsimp only;omega),by first|omega|(dsimp only;omega),by first|omega|(dsimp only;omega)⟩,by (try simp only[]);rw[XQ];exact hK⟩
    first|omega|(simp only;omega)
   try simp only[cn]at h3
   have n7:e=os.length:=by omega
   subst n7;apply AW.exit;apply CG;apply rQ;simp-dsimp-implicitDefEqProofs(maxSteps:=800000) (disch:=omega)only[go_sem,A5,vi,ints,A6,D2,CR,AH,AS,AE,B8,eq_self,AN,AR,B1,Nat.min_self,BP,B7,B2,Int.toNat_one,Nat.add_sub_cancel];refine⟨(oset t sd y,K,uC,[],f'),?_,(by intro i c hi;simp only[AU,List.nil_append]at hi ⊢;grind),?_,?_⟩
   ·first|(simp(disch:=omega) [AO,AQ,sl,Jd]<;>omega)|(simp(disch:=omega) [AO,AQ,sl]<;>omega)
   ·exact⟨⟨by first|omega|(dsimp only;omega),by first|omega|(dsimp only;omega),by first|omega|(dsimp only;omega)⟩,Nd.1,by rw[hK];exact Nd.2,iQ,by (try (dsimp only at MC ⊢));rw[hK];omega,by dsimp only;rw[hK];exact PA⟩
   first|omega|(simp only;omega)
  skip
  obtain⟨RV,hz⟩:=Q2 hb;obtain⟨z,hzz⟩:∃z,(t e).getD z0=z:=⟨_,rfl⟩;rw[hzz]at hz;have Mv:=(hG e z hz).2.1.mono hv (Nat.zero_le e);have XQ:MD (pc os pw cj) t y (e+1)=MD (pc os pw cj) t y e++[y9 (pc os pw cj) z y]:=by rw[MD,hz]
  simp-dsimp-implicitDefEqProofs(maxSteps:=800000) (disch:=omega)only[go_sem];refine sQ fun N hN=>?_;simp-dsimp-implicitDefEqProofs(maxSteps:=800000) (disch:=omega)only[go_sem,A5,vi,ints,A6,D2,CR,AH,AS,AE,B8,eq_self,AN,AR,B1,Nat.min_self,BP,B7,B2,Int.toNat_one,Nat.add_sub_cancel]
  apply hN;refine AW.seq fun N7 JO=>?_;refine AW.cond rfl ?_ ?_<;>intro h5
  ·try simp only[cn]at h5
   apply AW.skip;apply JO;refine AW.seq fun N8 JJ=>?_;apply AW.block;refine sQ fun N hN=>?_;simp-dsimp-implicitDefEqProofs(maxSteps:=800000) (disch:=omega)only[go_sem,A5,vi,ints,A6,D2,CR,AH,AS,AE,B8,eq_self,AN,AR,B1,Nat.min_self,BP,B7,B2,Int.toNat_one,Nat.add_sub_cancel]
   apply hN;refine sQ fun N hN=>?_;simp-dsimp-implicitDefEqProofs(maxSteps:=800000) (disch:=omega)only[go_sem,A5,vi,ints,A6,D2,CR,AH,AS,AE,B8,eq_self,AN,AR,B1,Nat.min_self,BP,B7,B2,Int.toNat_one,Nat.add_sub_cancel]
   apply hN;refine AW.cond rfl ?_ ?_<;>intro h6
   ·(try simp only[cn]at h6);apply rQ;simp-dsimp-implicitDefEqProofs(maxSteps:=800000) (disch:=omega)only[go_sem,A5,vi,ints,A6,D2,CR,AH,AS,AE,B8,eq_self,AN,AR,B1,Nat.min_self,BP,B7,B2,Int.toNat_one,Nat.add_sub_cancel,hzz];refine AC.pure (.of (OX os pw cj h hc z y Mv I4)) ?_;try simp-dsimp-implicitDefEqProofs(maxSteps:=800000) (disch:=omega)only[go_sem,A5,vi,ints,A6,D2,CR,AH,AS,AE,B8,eq_self,AN,AR,B1,Nat.min_self,BP,B7,B2,Int.toNat_one,Nat.add_sub_cancel]
    apply JJ;apply rQ;simp-dsimp-implicitDefEqProofs(maxSteps:=800000) (disch:=omega)only[go_sem,A5,vi,ints,A6,D2,CR,AH,AS,AE,B8,eq_self,AN,AR,B1,Nat.min_self,BP,B7,B2,Int.toNat_one,Nat.add_sub_cancel];refine⟨(e+1,m2+1+3+2+9,K++[y9 (pc os pw cj) z y]),?_,by exact jJ C7 (by dsimp only;simp[vi]) (by simp(disch:=omega)only[A0,A1]) (by first|omega|(dsimp only;omega)) (fun i h1 h2=>by simp(disch:=omega)only[A0]),?_,?_⟩
    ·simp(disch:=omega) [AO,AQ,sl,yS,AJ,vi]<;>omega
    ·exact⟨⟨by first|omega|(dsimp only;omega),by first|omega|(dsimp only;omega),by first|omega|(dsimp only;omega)⟩,by (try simp only[]);rw[XQ,hK];simp only[List.append_assoc]⟩
    first|omega|(simp only;omega)
   try simp only[cn]at h6
   first|done|(cases h6)|(exact absurd h6 (by simp))
  try simp only[cn]at h5
  have n7:e=os.length:=by omega
  subst n7;apply AW.exit;apply CG;apply rQ;simp-dsimp-implicitDefEqProofs(maxSteps:=800000) (disch:=omega)only[go_sem,A5,vi,ints,A6,D2,CR,AH,AS,AE,B8,eq_self,AN,AR,B1,Nat.min_self,BP,B7,B2,Int.toNat_one,Nat.add_sub_cancel];refine⟨(oset t sd y,K,uC,[],f'),?_,(by intro i c hi;simp only[AU,List.nil_append]at hi ⊢;grind),?_,?_⟩
  ·first|(simp(disch:=omega) [AO,AQ,sl,Jd]<;>omega)|(simp(disch:=omega) [AO,AQ,sl]<;>omega)
  ·exact⟨⟨by first|omega|(dsimp only;omega),by first|omega|(dsimp only;omega),by first|omega|(dsimp only;omega)⟩,Nd.1,by rw[hK];exact Nd.2,iQ,by (try (dsimp only at MC ⊢));rw[hK];omega,by dsimp only;rw[hK];exact PA⟩
  first|omega|(simp only;omega)
 try simp only[cn]at h1
 apply AW.exit;apply BC;refine sQ fun N hN=>?_;simp-dsimp-implicitDefEqProofs(maxSteps:=800000) (disch:=omega)only[go_sem,A5,vi,ints,A6,D2,CR,AH,AS,AE,B8,eq_self,AN,AR,B1,Nat.min_self,BP,B7,B2,Int.toNat_one,Nat.add_sub_cancel]
 apply hN;apply AW.ret;simp-dsimp-implicitDefEqProofs(maxSteps:=800000) (disch:=omega)only[go_sem];have hQ0:Q=[]:=List.length_eq_zero_iff.1 (by omega)
 subst hQ0
 have htR:t=R:=by rw[←hC];cases f with|zero=>rfl|succ f=>rfl
 subst htR
 exact⟨_,rA (by rw[A0 _ _ (by omega)];exact C7 id DA),rfl,rfl⟩
end
end Go.Proofs.YtghmeeifjeafmaaGreat
namespace Go.Proofs.YtghmeeifjeafmaaGreat
theorem yU{P:Pc}{t:Nat→Option V}:yO P t []=t:=by
  unfold yO;cases P8 P t []with
  |zero=>rfl
  |succ f=>rfl
theorem rC{H:HP}{id:Nat}{c:Option (List AV)}(h:H id=c):AU H id c=H:=by
  funext i
  unfold AU;split
  · rename_i e;rw[e,h]
  rfl
section
variable(os:List Int)(pw:List (List Int))(cj:List (List (List Int)))
set_option maxRecDepth 20000 in
theorem Z8(n ids:Nat)(nx:Nat)(H:HP):AC Tryz.prog 81 nx H [.q ids 0,B2 n []] (fun _ H' r=>r= .b false∧H'=H):=by
 refine AC.C2 A9 Tryz.func81 rfl (by kernel_rfl) Tryz.ntmps81 Tryz.results81 (fun C7 cX=>?_)
 refine sQ fun N hN=>?_;simp-dsimp-implicitDefEqProofs(disch:=omega)only[go_sem,vi,ints,B2];apply hN;refine sQ fun N hN=>?_;simp-dsimp-implicitDefEqProofs(disch:=omega)only[go_sem,vi,ints,B2];apply hN;refine sQ fun N hN=>?_;simp-dsimp-implicitDefEqProofs(disch:=omega)only[go_sem,vi,ints,B2];refine(JR n [] (by simp) _ _).AG ?_
 rintro Mq H1 r mZ (⟨Nc,rfl,pZ,xW,rfl⟩|⟨-,rfl,rfl⟩)
 ·skip
  try simp-dsimp-implicitDefEqProofs(disch:=omega)only[go_sem,vi,ints,B2]
  apply hN;refine AW.seq fun N1 BC=>?_;apply AW.block;refine AW.AF (α:=Nat) (fun x=>sl 109 [(0,.q ids 0),(5,.b false),(6,.h Nc 0 0)]) (fun _=>AU H Nc (some [])) (fun x m=>nx≤Nc) (fun x=>0) (0) ?_ ?_ (fun _ _ h=>h) ?_
  ·omega
  ·simp(disch:=omega) [AO,AQ,sl]
  skip
  rintro k m hk;simp-dsimp-implicitDefEqProofs(disch:=omega)only[go_sem];refine AW.seq fun N2 BM=>?_;refine sQ fun N hN=>?_;simp-dsimp-implicitDefEqProofs(disch:=omega)only[go_sem,vi,ints,B2];apply hN;refine AW.cond rfl ?_ ?_<;>intro h1
  ·try simp only[cn]at h1
   first|done|(cases h1)|(exact absurd h1 (by simp))
  try simp only[cn]at h1
  apply AW.exit;apply BC;refine sQ fun N hN=>?_;simp-dsimp-implicitDefEqProofs(disch:=omega)only[go_sem,vi,ints,B2];apply hN;apply AW.ret;simp-dsimp-implicitDefEqProofs(disch:=omega)only[go_sem];exact⟨_,rA (C7 Nc hk),rfl⟩
 skip
 try simp-dsimp-implicitDefEqProofs(disch:=omega)only[go_sem,vi,ints,B2]
 apply hN;refine AW.seq fun N3 BQ=>?_;apply AW.block;refine AW.AF (α:=Nat) (fun x=>sl 109 [(0,.q ids 0),(5,.b false),(6,.v 0 [])]) (fun _=>H1) (fun x m=>True) (fun x=>0) (0) ?_ ?_ (fun _ _ h=>h) ?_
 ·trivial
 ·simp(disch:=omega) [AO,AQ,sl]
 skip
 rintro k m hk
 simp-dsimp-implicitDefEqProofs(disch:=omega)only[go_sem];refine AW.seq fun N4 CG=>?_;refine sQ fun N hN=>?_;simp-dsimp-implicitDefEqProofs(disch:=omega)only[go_sem,vi,ints,B2];apply hN;refine AW.cond rfl ?_ ?_<;>intro h2
 ·try simp only[cn]at h2
  first|done|(cases h2)|(exact absurd h2 (by simp))
 try simp only[cn]at h2
 apply AW.exit;apply BQ;refine sQ fun N hN=>?_;simp-dsimp-implicitDefEqProofs(disch:=omega)only[go_sem,vi,ints,B2];apply hN;apply AW.ret;simp-dsimp-implicitDefEqProofs(disch:=omega)only[go_sem];exact⟨_,Le.refl _,rfl⟩
theorem bV(h:AI os pw cj)(hc:DI (pc os pw cj) 0)(t0:Nat→Option V)(CT:LN (pc os pw cj) t0)(us:List V)(hl:us.length≤1000)(hu:∀x∈us,T (pc os pw cj) 0 x)(nx:Nat)(H:HP)(ids HD:Nat)(AL:ids≠HD)(D2:H ids=some [A5 os pw cj,.h HD 0 os.length])(CR:H HD=some (WE os.length t0)):AC Tryz.prog 81 nx H [.q ids 0,B2 os.length us] (fun _ H' r=>r= .b (tf (yO (pc os pw cj) t0 us≠t0))∧H'=AU H HD (some (WE os.length (yO (pc os pw cj) t0 us)))):=by
  by_cases h0:us=[]
  · subst h0;refine(Z8 os.length ids nx H).AG ?_;rintro m H1 r hm ⟨rfl,rfl⟩;rw[yU];exact⟨by rw[CE (fun q=>q rfl)],(rC CR).symm⟩
  exact bU os pw cj h hc t0 CT us hl (List.length_pos_iff.2 h0) hu nx H ids HD AL D2 CR
theorem rD(h:AI os pw cj)(hc:DI (pc os pw cj) 0)(us:List V)(hu:∀x∈us,T (pc os pw cj) 0 x):SK (pc os pw cj) (yO (pc os pw cj) (fun _=>none) us) 0=HJ (pc os pw cj) us:=
  qH h.val hc (fun d hd=>h.2.1 d hd) hu
theorem FP(h:AI os pw cj)(hc:DI (pc os pw cj) 0)(us:List V)(hl:us.length≤1000)(hu:∀x∈us,T (pc os pw cj) 0 x):BG Tryz.prog 44 [A5 os pw cj,B2 os.length us] (B2 os.length (HJ (pc os pw cj) us)):=by
 have J4:=h.1.1
 have hG:=Ti h.val hc (fun d hd=>h.2.1 d hd) hu
 have A1V:=rD os pw cj h hc us hu
 refine BG.AM A9 Tryz.func44 rfl (by kernel_rfl) Tryz.ntmps44 Tryz.results44 (pS _ _) (fun nx cX=>?_)
 refine sQ fun N hN=>?_;simp-dsimp-implicitDefEqProofs(disch:=omega)only[go_sem];apply hN;refine sQ fun N hN=>?_;simp-dsimp-implicitDefEqProofs(disch:=omega)only[go_sem];refine(NO os pw cj (by omega) _ _).AG ?_
 rintro m1 H1 r1 MW ⟨ids,HD,rfl,⟨i1,i2,i3,i4,i5⟩,rfl⟩
 try simp-dsimp-implicitDefEqProofs(disch:=omega)only[go_sem]
 apply hN;refine sQ fun N hN=>?_;simp-dsimp-implicitDefEqProofs(disch:=omega)only[go_sem];refine(bV os pw cj h hc (fun _=>none) (fun d y hy=>by cases hy) us hl hu _ _ ids HD i5 (A1 _ _ _) ((A0 _ _ (Ne.symm i5)).trans (A1 _ _ _))).AG ?_
 rintro m2 H2 r2 TI ⟨rfl,rfl⟩
 try simp-dsimp-implicitDefEqProofs(disch:=omega)only[go_sem]
 apply hN;refine sQ fun N hN=>?_;simp-dsimp-implicitDefEqProofs(disch:=omega)only[go_sem];refine(Q3 os pw cj h hc (yO (pc os pw cj) (fun _=>none) us) hG _ _ ids HD ((A0 _ _ i5).trans (A1 _ _ _)) (A1 _ _ _)).AG ?_
 rintro m3 H3 r3 S9 ⟨rfl,rfl⟩
 try simp-dsimp-implicitDefEqProofs(disch:=omega)only[go_sem]
 apply hN;apply AW.ret;simp-dsimp-implicitDefEqProofs(disch:=omega)only[go_sem];rw[A1V]
end
end Go.Proofs.YtghmeeifjeafmaaGreat
namespace Go.Proofs.YtghmeeifjeafmaaGreat
def KY(os:List Int)(x:V):Nat→Int
  |0=>0
  |k+1=>KY os x k*os.getD k 0+x k
section
variable{os:List Int}{pw:List (List Int)}{cj:List (List (List Int))}(hp:∀i,i<os.length→J0 (os.getD i 0))
include hp
theorem Z9{x:V}(hx:T (pc os pw cj) 0 x):∀k,k≤os.length→0≤KY os x k∧KY os x k<OK os k:=by
  intro k;induction k with
  |zero=>intro _;exact⟨Int.le_refl _,by simp[KY,OK]⟩
  | succ k ih=>
    intro hk;obtain⟨i1,i2⟩:=ih (by omega);have ho:=D0 (hp k (by omega));have hr:=hx.r k (Nat.zero_le k) (show k<os.length by omega);have lN:(pc os pw cj).o k=os.getD k 0:=rfl;rw[lN]at hr;have h1:0≤KY os x k*os.getD k 0:=Int.mul_nonneg i1 (by omega);have h2:(KY os x k+1)*os.getD k 0≤OK os k*os.getD k 0:=Int.mul_le_mul_of_nonneg_right (by omega) (by omega);rw[Int.add_mul,Int.one_mul]at h2;rw[KY,OK];omega
theorem yV{x y:V}(hx:T (pc os pw cj) 0 x)(hy:T (pc os pw cj) 0 y):∀k,k≤os.length→KY os x k=KY os y k→∀j,j<k→x j=y j:=by
  intro k;induction k with
  |zero=>intro _ _ j hj;omega
  | succ k ih=>
    intro hk he j hj;have ho:=D0 (hp k (by omega));have h1:=hx.r k (Nat.zero_le k) (show k<os.length by omega);have h2:=hy.r k (Nat.zero_le k) (show k<os.length by omega);have lN:(pc os pw cj).o k=os.getD k 0:=rfl;rw[lN]at h1 h2;rw[KY,KY]at he;have key:KY os x k=KY os y k:=by
      rcases Int.lt_trichotomy (KY os x k) (KY os y k)with q|q|q
      · have h3:(KY os x k+1)*os.getD k 0≤KY os y k*os.getD k 0:=Int.mul_le_mul_of_nonneg_right (by omega) (by omega);rw[Int.add_mul,Int.one_mul]at h3;omega
      · exact q
      have h3:(KY os y k+1)*os.getD k 0≤KY os x k*os.getD k 0:=Int.mul_le_mul_of_nonneg_right (by omega) (by omega);rw[Int.add_mul,Int.one_mul]at h3;omega
    rw[key]at he;rcases Nat.lt_or_ge j k with q|q
    · exact ih (by omega) key j q
    obtain rfl:j=k:=by omega
    omega
theorem eZ{x y:V}(hx:T (pc os pw cj) 0 x)(hy:T (pc os pw cj) 0 y)(h:KY os x os.length=KY os y os.length):x=y:=by
  funext k
  rcases Nat.lt_or_ge k os.length with q|q
  · exact yV hp hx hy os.length (Nat.le_refl _) h k q
  rw[hx.t k q,hy.t k q]
end
noncomputable def GP:List V→V→Nat
  |[],_=>0
  |p::ps,y=>if tf (p=y)=true then 0 else GP ps y+1
theorem V3{y:V}:∀pts:List V,GP pts y≤pts.length∧(∀j,j<GP pts y→pts.getD j z0≠y)∧(GP pts y<pts.length→pts.getD (GP pts y) z0=y):=by
  intro pts;induction pts with
  |nil=>exact⟨Nat.le_refl _,fun j hj=>by simp[GP]at hj,fun h=>by simp[GP]at h⟩
  | cons p ps ih=>
    obtain⟨i1,i2,i3⟩:=ih;by_cases h:p=y
    · have e:GP (p::ps) y=0:=by rw[GP,EN h,if_pos rfl]
      rw[e];exact⟨Nat.zero_le _,fun j hj=>by omega,fun _=>h⟩
    have e:GP (p::ps) y=GP ps y+1:=by rw[GP,CE h,if_neg (by simp)]
    rw[e,List.length_cons];refine⟨by omega,fun j hj=>?_,fun q=>i3 (by omega)⟩;cases j with
    |zero=>exact h
    |succ j=>exact i2 j (by omega)
theorem ZA{pts:List V}{y:V}{k:Nat}(hk:k≤pts.length)(h:∀j,j<k→pts.getD j z0≠y)(he:k<pts.length→pts.getD k z0=y):GP pts y=k:=by
  obtain⟨i1,i2,i3⟩:=V3 (y:=y) pts;rcases Nat.lt_trichotomy (GP pts y) k with q|q|q
  · exact absurd (i3 (by omega)) (h _ q)
  · exact q
  exact absurd (he (by omega)) (i2 k q)
theorem Je{pts:List V}{y:V}(h:GP pts y=pts.length):y∉pts:=by
  intro hm;obtain⟨j,hj,e⟩:=List.getElem_of_mem hm;have:=(V3 (y:=y) pts).2.1 j (by omega);rw[List.getD_eq_getElem?_getD,List.getElem?_eq_getElem hj]at this;exact this e
noncomputable def K0(pts:List V)(y:V):List V:=if GP pts y=pts.length then pts++[y]else pts
noncomputable def GF(P:Pc)(xs:List V)(x:V):Nat→List V→List V×List Int
  |0,pts=>(pts,[])
  |j+1,pts=>(K0 (GF P xs x j pts).1 (M P 0 x (xs.getD j z0)),(GF P xs x j pts).2++[(GP (GF P xs x j pts).1 (M P 0 x (xs.getD j z0)):Int)])
noncomputable def BS(P:Pc)(xs:List V):Nat→List V×List (List Int)
  |0=>([z0],[])
  |i+1=>((GF P xs ((BS P xs i).1.getD i z0) xs.length (BS P xs i).1).1,(BS P xs i).2++[(GF P xs ((BS P xs i).1.getD i z0) xs.length (BS P xs i).1).2])
theorem jK{P:Pc}{xs:List V}{x:V}{pts:List V}:∀j,∃e,(GF P xs x j pts).1=pts++e:=by
  intro j;induction j with
  |zero=>exact⟨[],by simp[GF]⟩
  | succ j ih=>
    obtain⟨e,he⟩:=ih;rw[GF];dsimp only;unfold K0;split
    · exact⟨e++[M P 0 x (xs.getD j z0)],by rw[he,List.append_assoc]⟩
    exact⟨e,he⟩
theorem jL{P:Pc}{xs:List V}{x:V}{pts:List V}{i j:Nat}(hi:i<pts.length):(GF P xs x j pts).1.getD i z0=pts.getD i z0∧pts.length≤(GF P xs x j pts).1.length:=by
  obtain⟨e,he⟩:=jK (P:=P) (xs:=xs) (x:=x) (pts:=pts) j;rw[he];refine⟨?_,by rw[List.length_append];omega⟩;simp only[List.getD_eq_getElem?_getD];rw[List.getElem?_append_left hi]
theorem ZB{P:Pc}{xs:List V}{x:V}{pts:List V}:∀j,(GF P xs x j pts).2.length=j:=by
  intro j;induction j with
  |zero=>rfl
  |succ j ih=>rw[GF];simp[ih]
theorem KN{P:Pc}{xs:List V}:∀i,(BS P xs i).2.length=i:=by
  intro i;induction i with
  |zero=>rfl
  |succ i ih=>rw[BS];simp[ih]
def XZ(P:Pc)(pts:List V):Prop:=(∀p∈pts,T P 0 p)∧pts.Nodup∧0<pts.length
theorem XZ.ps{P:Pc}{pts:List V}{y:V}(h:XZ P pts)(hy:T P 0 y):XZ P (K0 pts y):=by
  obtain⟨h1,h2,h3⟩:=h;unfold K0;split
  · rename_i e;refine⟨fun p hp=>?_,?_,by simp⟩
    · rcases List.mem_append.1 hp with q|q
      · exact h1 p q
      rw[List.mem_singleton.1 q];exact hy
    rw[List.nodup_append];exact⟨h2,by simp,fun a ha b hb e2=>by rw[List.mem_singleton.1 hb]at e2;subst e2;exact Je e ha⟩
  exact⟨h1,h2,h3⟩
section
variable{P:Pc}(hv:F9 P)(hc:DI P 0){xs:List V}(JH:∀x∈xs,T P 0 x)
include hv hc JH
omit hv hc in
theorem bW{j:Nat}(hj:j<xs.length):T P 0 (xs.getD j z0):=JH _ (by rw[List.getD_eq_getElem?_getD,List.getElem?_eq_getElem hj];exact List.getElem_mem _)
theorem XZ.GF{x:V}(hx:T P 0 x){pts:List V}(h:XZ P pts):∀j,j≤xs.length→XZ P (GF P xs x j pts).1:=by
  intro j;induction j with
  |zero=>intro _;exact h
  | succ j ih=>
    intro hj;rw[Go.Proofs.YtghmeeifjeafmaaGreat.GF];exact(ih (by omega)).ps ((BO hv hc).cl hx (bW JH (by omega)))
theorem XZ.BS:∀i,(∀i',i'<i→i'<(BS P xs i').1.length)→XZ P (BS P xs i).1:=by
  intro i;induction i with
  |zero=>intro _;exact⟨fun p hp=>by rw[List.mem_singleton.1 hp];exact(BO hv hc).e0,by simp[Go.Proofs.YtghmeeifjeafmaaGreat.BS],by simp[Go.Proofs.YtghmeeifjeafmaaGreat.BS]⟩
  | succ i ih=>
    intro hi;have h:=ih (fun i' h=>hi i' (by omega));have hl:=hi i (by omega);rw[Go.Proofs.YtghmeeifjeafmaaGreat.BS];refine XZ.GF hv hc JH ?_ h xs.length (Nat.le_refl _);exact h.1 _ (by rw[List.getD_eq_getElem?_getD,List.getElem?_eq_getElem hl];exact List.getElem_mem _)
end
theorem rE:∀(N:Nat) (l:List Nat),l.Nodup→(∀x∈l,x<N)→l.length≤N:=by
  intro N;induction N with
  | zero=>
    intro l _ h;cases l with
    |nil=>exact Nat.le_refl _
    |cons a l=>have:=h a List.mem_cons_self;omega
  | succ N ih=>
    intro l hn h;have h1:=ih (l.erase N) (hn.erase N) (fun x hx=>by
      have h2:=(List.Nodup.mem_erase_iff hn).1 hx;have:=h x h2.2;have:=h2.1;omega)
    have h2:=List.length_erase (a:=N) (l:=l);split at h2<;>omega
theorem XZ.len{os:List Int}{pw:List (List Int)}{cj:List (List (List Int))}(hp:AI os pw cj){pts:List V}(h:XZ (pc os pw cj) pts):pts.length≤729:=by
  obtain⟨h1,h2,h3⟩:=h;have hb:=hp.2.2.1;have:=rE 729 (pts.map fun p=>(KY os p os.length).toNat) ?_ ?_
  · rwa [List.length_map]at this
  · have go:∀pts:List V,(∀p∈pts,T (pc os pw cj) 0 p)→pts.Nodup→(pts.map fun p=>(KY os p os.length).toNat).Nodup:=by
      intro pts;induction pts with
      |nil=>intro _ _;simp
      | cons a l ih=>
        intro hT hn;rw[List.nodup_cons]at hn;rw[List.map_cons,List.nodup_cons];refine⟨fun hm=>?_,ih (fun p hp=>hT p (List.mem_cons_of_mem _ hp)) hn.2⟩;obtain⟨b,hb,e⟩:=List.mem_map.1 hm;have t1:=hT a List.mem_cons_self;have t2:=hT b (List.mem_cons_of_mem _ hb);have b1:=Z9 hp.2.1 t1 os.length (Nat.le_refl _);have b2:=Z9 hp.2.1 t2 os.length (Nat.le_refl _);have:b=a:=eZ hp.2.1 t2 t1 (by omega);rw[this]at hb;exact hn.1 hb
    exact go pts h1 h2
  intro x hx;obtain⟨p,hm,rfl⟩:=List.mem_map.1 hx;have b1:=Z9 hp.2.1 (h1 p hm) os.length (Nat.le_refl _);omega
theorem jM{l e:List Int}{g:Nat}(h:g<l.length):(l++e).getD g 0=l.getD g 0:=by
  simp only[List.getD_eq_getElem?_getD];rw[List.getElem?_append_left h]
theorem bX{l:List Int}{a:Int}{g:Nat}(h:g=l.length):(l++[a]).getD g 0=a:=by
  subst h;simp only[List.getD_eq_getElem?_getD];rw[List.getElem?_append_right (Nat.le_refl _),Nat.sub_self];rfl
def ZC(rws:List (List Int))(g:Nat):List Int:=rws.map fun r=>r.getD g 0
theorem V4{rws:List (List Int)}{g:Nat}:(ZC rws g).length=rws.length:=by simp[ZC]
noncomputable def F6(P:Pc)(xs:List V)(i j g:Nat):List Int:=
  if g<j then ZC (BS P xs i).2 g++[(GF P xs ((BS P xs i).1.getD i z0) j (BS P xs i).1).2.getD g 0]else ZC (BS P xs i).2 g
theorem ZD{P:Pc}{xs:List V}{i g:Nat}:F6 P xs i 0 g=ZC (BS P xs i).2 g:=by unfold F6;rw[if_neg (by omega)]
theorem V5{P:Pc}{xs:List V}{i j g:Nat}:(F6 P xs i j g).length=if g<j then i+1 else i:=by
  unfold F6;split
  · rw[List.length_append,V4,KN];rfl
  rw[V4,KN]
theorem JS{P:Pc}{xs:List V}{i g:Nat}(hg:g<xs.length):F6 P xs i xs.length g=F6 P xs (i+1) 0 g:=by
  rw[ZD];unfold F6;rw[if_pos hg,BS];simp[ZC]
theorem rF{P:Pc}{xs:List V}{i j g:Nat}:F6 P xs i (j+1) g=if g=j then F6 P xs i j j++[(GP (GF P xs ((BS P xs i).1.getD i z0) j (BS P xs i).1).1 (M P 0 ((BS P xs i).1.getD i z0) (xs.getD j z0)):Int)]else F6 P xs i j g:=by
  have hl:=ZB (P:=P) (xs:=xs) (x:=(BS P xs i).1.getD i z0) (pts:=(BS P xs i).1) j;by_cases e:g=j
  · subst e;rw[if_pos rfl];unfold F6;rw[if_pos (by omega),if_neg (by omega),GF];rw[bX hl.symm]
  rw[if_neg e];unfold F6;by_cases q:g<j
  · rw[if_pos (by omega),if_pos q,GF];rw[jM (by omega)]
  rw[if_neg (by omega),if_neg q]
def rG(P:Pc)(xs:List V)(i:Nat):Prop:=i=(BS P xs i).1.length∧∀i',i'<i→i'<(BS P xs i').1.length
theorem rG.uniq{P:Pc}{xs:List V}{i j:Nat}(h:rG P xs i)(h':rG P xs j):i=j:=by
  rcases Nat.lt_trichotomy i j with q|q|q
  · have:=h'.2 i q;have:=h.1;omega
  · exact q
  have:=h.2 j q;have:=h'.1;omega
noncomputable def jN(P:Pc)(xs:List V):Nat:=open Classical in if h:∃i,rG P xs i then Classical.choose h else 0
theorem fA{P:Pc}{xs:List V}{i:Nat}(h:rG P xs i):jN P xs=i:=by
  have hh:∃i,rG P xs i:=⟨i,h⟩;unfold jN;rw[dif_pos hh];exact(Classical.choose_spec hh).uniq h
noncomputable def Q4(P:Pc)(xs:List V):List (List Int):=(List.range xs.length).map fun g=>F6 P xs (jN P xs) 0 g
def jO(os:List Int):Nat→List V→List AV
  |_,[]=>[]
  |i,p::ps=> .g [.i .i64 (KY os p os.length),.i .i64 i]::jO os (i+1) ps
theorem jQ{os:List Int}{y:V}:∀(pts:List V) (i:Nat),jO os i (pts++[y])=jO os i pts++[.g [.i .i64 (KY os y os.length),.i .i64 ((i+pts.length:Nat):Int)]]:=by
  intro pts;induction pts with
  |nil=>intro i;rfl
  | cons p ps ih=>
    intro i;rw[List.cons_append,jO,jO,ih,List.cons_append,List.length_cons,show i+1+ps.length=i+(ps.length+1) by omega]
section
variable{os:List Int}{pw:List (List Int)}{cj:List (List (List Int))}(hp:∀i,i<os.length→J0 (os.getD i 0))
include hp
theorem TO{y:V}(hy:T (pc os pw cj) 0 y):∀(pts:List V) (i:Nat),(∀p∈pts,T (pc os pw cj) 0 p)→OH .i64 (KY os y os.length) (jO os i pts)=some (if GP pts y<pts.length then some (.i .i64 ((i+GP pts y:Nat):Int))else none):=by
  intro pts;induction pts with
  |nil=>intro i _;simp[jO,OH,GP]
  | cons p ps ih=>
    intro i hT;have ih:=ih (i+1) (fun q hq=>hT q (List.mem_cons_of_mem _ hq));rw[jO,OH,if_pos rfl];by_cases h:p=y
    · have e:KY os y os.length=KY os p os.length:=by rw[h]
      rw[if_pos e,GP,EN h,if_pos rfl,if_pos (by simp),Nat.add_zero]
    have e2:GP (p::ps) y=GP ps y+1:=by rw[GP,CE h];rfl
    rw[if_neg (fun e=>h (eZ hp (hT p List.mem_cons_self) hy e.symm)),ih,e2,List.length_cons];by_cases q:GP ps y<ps.length
    · rw[if_pos q,if_pos (by omega),show i+1+GP ps y=i+(GP ps y+1) by omega]
    rw[if_neg q,if_neg (by omega)]
theorem jR{y:V}(hy:T (pc os pw cj) 0 y){v:AV}:∀(pts:List V) (i:Nat),(∀p∈pts,T (pc os pw cj) 0 p)→GP pts y=pts.length→aK .i64 (KY os y os.length) v (jO os i pts)=some (jO os i pts++[.g [.i .i64 (KY os y os.length),v]]):=by
  intro pts;induction pts with
  |nil=>intro i _ _;rfl
  | cons p ps ih=>
    intro i hT hf;have AL:p≠y:=fun e=>by rw[GP,EN e,if_pos rfl]at hf;simp at hf
    rw[GP,CE AL,if_neg (by simp),List.length_cons]at hf;rw[jO,aK,if_pos rfl,if_neg (fun e=>AL (eZ hp (hT p List.mem_cons_self) hy e.symm)),ih (i+1) (fun q hq=>hT q (List.mem_cons_of_mem _ hq)) (by omega)];rfl
end
end Go.Proofs.YtghmeeifjeafmaaGreat
