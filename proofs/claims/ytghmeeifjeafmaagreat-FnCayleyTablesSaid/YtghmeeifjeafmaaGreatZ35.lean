import Derived.Test.YtghmeeifjeafmaaGreatZ33
import Derived.Test.YtghmeeifjeafmaaGreatZ34
set_option linter.unusedVariables false
set_option linter.unusedSimpArgs false
namespace Go.Proofs.YtghmeeifjeafmaaGreat
def AY(bs:List Int)(AT:Nat)(G:HP):Prop:=∃a s,zT bs a s∧G AT=some (Kf bs a s)
def sK(bs:List Int)(AT nx:Nat)(H:HP)(Q:AV→Prop):Nat→HP→AV→Prop:=fun _ H' r=>Q r∧AY bs AT H'∧∀i,i<nx→i≠AT→H' i=H i
theorem AY.AD{bs:List Int}{AT:Nat}{G G':HP}(h:AY bs AT G)(hk:G' AT=G AT):AY bs AT G':=by
  obtain⟨a,s,h1,h2⟩:=h;exact⟨a,s,h1,hk.trans h2⟩
theorem AC.zs{P:Program}{f:FuncId}{xs:List AV}{Q:AV→Prop}{nx AT:Nat}{H:HP}{bs:List Int}(J6:AT<nx)(h:AC P f nx H xs (fun nx' H' r=>∃r2,Fz H' (GH nx H') r r2∧Q r2∧AY bs AT H'∧∀i,i<nx→i≠AT→H' i=H i)):AC P f nx H xs (sK bs AT nx H Q):=
  h.Up fun nx' H' r ⟨r2,g1,g2,g3,g4⟩=>⟨GH nx H',r2,L7.GH,g1,g2,g3.AD (BE J6),fun i hi AL=>(BE hi).trans (g4 i hi AL)⟩
def A2R(n:Int)(r:AV):Prop:=∃x,r= .i .i64 x∧0≤x∧(x<n∨x=0)
theorem AK{bs:List Int}{AT:Nat}{H:HP}(hg:AY bs AT H)(n:Int)(hn:n≤1000000000)(nx:Nat):AC Tryz.prog 39 nx H [.q AT 0,.i .i64 n] (sK bs AT nx H (A2R n)):=by
  obtain⟨a,s,h1,h2⟩:=hg;refine(VO bs a s h1 n hn nx H AT h2).mono ?_;rintro nx' H' r ⟨x,a',s',rfl,hx,ho,rfl⟩;exact⟨⟨x,rfl,hx⟩,⟨a',s',ho,A1 _ _ _⟩,fun i _ AL=>A0 _ _ AL⟩
theorem VU{bs:List Int}{AT pC:Nat}{H:HP}(hg:AY bs AT H)(vs:List Int)(n:Nat)(hl:H pC=some (vs.map (.i .i64)))(hn:vs.length=n)(h0:0<n)(h1:n≤1000)(nx:Nat)(J6:AT<nx)(a8:pC<nx)(AL:pC≠AT):AC Tryz.prog 40 nx H [.q AT 0,.h pC 0 n] (fun nx' H' r=>∃r2,Fz H' (GH nx H') r r2∧(∃x,r2= .i .i64 x∧x∈vs)∧AY bs AT H'∧∀i,i<nx→i≠AT→H' i=H i):=by
 refine AC.C2 A9 Tryz.func40 rfl (by kernel_rfl) Tryz.ntmps40 Tryz.results40 (fun C7 cX=>?_)
 refine sQ fun N hN=>?_;simp-dsimp-implicitDefEqProofs(disch:=omega)only[go_sem];apply hN;refine sQ fun N hN=>?_;simp-dsimp-implicitDefEqProofs(disch:=omega)only[go_sem];refine(AK hg n (by omega) _).AG ?_
 rintro m1 H1 r1 MW ⟨⟨x,rfl,hx⟩,JZ,RW⟩
 have HR:=(RW pC (by omega) AL).trans hl
 have KA:x.toNat<vs.length:=by omega
 have dQ:(vs.map (AV.i .i64)).getD x.toNat .j= .i .i64 (vs.getD x.toNat 0):=A6 KA
 try simp-dsimp-implicitDefEqProofs(disch:=omega)only[go_sem,HR,dQ,List.length_map,hn]
 apply hN;apply AW.ret;simp-dsimp-implicitDefEqProofs(disch:=omega)only[go_sem];exact⟨_,fun _ _ h=>h,_,.refl _,⟨_,rfl,by rw[List.getD_eq_getElem?_getD,List.getElem?_eq_getElem KA];exact List.getElem_mem KA⟩,JZ,fun i hi A2S=>RW i (by omega) A2S⟩
theorem CD{bs:List Int}{AT pC:Nat}{H:HP}(hg:AY bs AT H)(vs:List Int)(n:Nat)(hl:H pC=some (vs.map (.i .i64)))(hn:vs.length=n)(h0:0<n)(h1:n≤1000)(nx:Nat)(J6:AT<nx)(a8:pC<nx)(AL:pC≠AT):AC Tryz.prog 40 nx H [.q AT 0,.h pC 0 n] (sK bs AT nx H (fun r=>∃x,r= .i .i64 x∧x∈vs)):=AC.zs J6 (VU hg vs n hl hn h0 h1 nx J6 a8 AL)
theorem fP{pre z:List AV}{y x:AV}:HF (pre++y::z) (pre.length*1) [x]=pre++x::z:=by
  simp[HF]
theorem mH:∀(xs pre z:List AV),(∀x∈xs,BZ x=[x]∧TZ x=true)→z.length=xs.length→JM (fun i=>some (i*1,1)) (pre++z) ((xs.zipIdx pre.length).map fun p=>(p.2,p.1))=some (pre++xs):=by
  intro xs;induction xs with
  |nil=>intro pre z _ hz;rw[List.length_eq_zero_iff.1 hz];simp[JM]
  | cons x xs ih=>
    intro pre z hx hz;cases z with
    |nil=>simp at hz
    | cons y z=>
      obtain⟨h1,h2⟩:=hx x (by simp);simp only[List.zipIdx_cons,List.map_cons,JM];rw[h1,h2,if_neg (by simp),fP];have:=ih (pre++[x]) z (fun w hw=>hx w (by simp[hw])) (by simpa using hz);simpa using this
theorem cT{Γ:BV}{ty el:TypeId}{e ee:TE}{n:Nat}{xs:List AV}{parts:List (Nat×AV)}{id:Nat}{k:AV→Option (List AV)→Prop}(h1:Γ ty=some e)(h2:e.d= .slice el)(h3:Γ el=some ee)(h4:(ee.size==1)=true)(h5:ee.zero.cells.size=1)(hn:xs.length=n)(TJ:n≤1000)(hx:∀x∈xs,BZ x=[x]∧TZ x=true)(hp:parts=(xs.zipIdx 0).map fun p=>(p.2,p.1)):WI Γ ty n parts id k=k (.h id 0 n) (some xs):=by
  unfold WI;simp only[h1,h2,h3];rw[h4,aX,hp];have:=mH xs [] (List.replicate n (EI (ee.zero.cells.getD 0 undef))) hx (by simp[hn]);rw[List.nil_append,List.nil_append,List.length_nil]at this;rw[this];simp only[eq_iff_iff];exact⟨fun h=>h.2.2.2,fun h=>⟨h5,by omega,hn,h⟩⟩
theorem Kp(n:Nat)(vs:List Int)(hn:vs.length=n)(TJ:n≤1000){parts:List (Nat×AV)}{id:Nat}{k:AV→Option (List AV)→Prop}(hp:parts=((vs.map (AV.i .i64)).zipIdx 0).map fun p=>(p.2,p.1)):WI env 24 n parts id k=k (.h id 0 n) (some (vs.map (.i .i64))):=
  cT rfl rfl rfl rfl rfl (by rw[List.length_map];exact hn) TJ (fun x hx=>by obtain⟨v,_,rfl⟩:=List.mem_map.1 hx;exact⟨rfl,rfl⟩) hp
theorem A2T(n:Nat)(vs:List ByteArray)(hn:vs.length=n)(TJ:n≤1000){parts:List (Nat×AV)}{id:Nat}{k:AV→Option (List AV)→Prop}(hp:parts=((vs.map AV.s).zipIdx 0).map fun p=>(p.2,p.1)):WI env 173 n parts id k=k (.h id 0 n) (some (vs.map .s)):=
  cT rfl rfl rfl rfl rfl (by rw[List.length_map];exact hn) TJ (fun x hx=>by obtain⟨v,_,rfl⟩:=List.mem_map.1 hx;exact⟨rfl,rfl⟩) hp
theorem Ac{P:Program}{dst:Option Nat}(b0 b1 b2 b3 b4 b5 b6 b7 b8 b9:ByteArray)(id:Nat)(s:St)(K:St→Prop):HA env P dst (.buildSlice 173 10 #[(0,.const (.string b0)),(1,.const (.string b1)),(2,.const (.string b2)),(3,.const (.string b3)),(4,.const (.string b4)),(5,.const (.string b5)),(6,.const (.string b6)),(7,.const (.string b7)),(8,.const (.string b8)),(9,.const (.string b9))]) id s K=K ⟨BF s.t dst (.h id 0 10),AU s.H id (some [.s b0,.s b1,.s b2,.s b3,.s b4,.s b5,.s b6,.s b7,.s b8,.s b9]),s.nx⟩:=by
  rw[oN];exact A2T 10 [b0,b1,b2,b3,b4,b5,b6,b7,b8,b9] rfl (by omega) rfl
theorem Ae{P:Program}{dst:Option Nat}(b0 b1 b2 b3 b4 b5 b6 b7 b8 b9 b10:Int)(id:Nat)(s:St)(K:St→Prop):HA env P dst (.buildSlice 24 11 #[(0,.const (.int .i64 b0)),(1,.const (.int .i64 b1)),(2,.const (.int .i64 b2)),(3,.const (.int .i64 b3)),(4,.const (.int .i64 b4)),(5,.const (.int .i64 b5)),(6,.const (.int .i64 b6)),(7,.const (.int .i64 b7)),(8,.const (.int .i64 b8)),(9,.const (.int .i64 b9)),(10,.const (.int .i64 b10))]) id s K=K ⟨BF s.t dst (.h id 0 11),AU s.H id (some [.i .i64 b0,.i .i64 b1,.i .i64 b2,.i .i64 b3,.i .i64 b4,.i .i64 b5,.i .i64 b6,.i .i64 b7,.i .i64 b8,.i .i64 b9,.i .i64 b10]),s.nx⟩:=by
  rw[oN];exact Kp 11 [b0,b1,b2,b3,b4,b5,b6,b7,b8,b9,b10] rfl (by omega) rfl
theorem Kq{P:Program}{dst:Option Nat}(b0 b1 b2 b3 b4 b5 b6 b7:Int)(id:Nat)(s:St)(K:St→Prop):HA env P dst (.buildSlice 24 8 #[(0,.const (.int .i64 b0)),(1,.const (.int .i64 b1)),(2,.const (.int .i64 b2)),(3,.const (.int .i64 b3)),(4,.const (.int .i64 b4)),(5,.const (.int .i64 b5)),(6,.const (.int .i64 b6)),(7,.const (.int .i64 b7))]) id s K=K ⟨BF s.t dst (.h id 0 8),AU s.H id (some [.i .i64 b0,.i .i64 b1,.i .i64 b2,.i .i64 b3,.i .i64 b4,.i .i64 b5,.i .i64 b6,.i .i64 b7]),s.nx⟩:=by
  rw[oN];exact Kp 8 [b0,b1,b2,b3,b4,b5,b6,b7] rfl (by omega) rfl
theorem tF{P:Program}{dst:Option Nat}(b0 b1 b2 b3 b4:Int)(id:Nat)(s:St)(K:St→Prop):HA env P dst (.buildSlice 24 5 #[(0,.const (.int .i64 b0)),(1,.const (.int .i64 b1)),(2,.const (.int .i64 b2)),(3,.const (.int .i64 b3)),(4,.const (.int .i64 b4))]) id s K=K ⟨BF s.t dst (.h id 0 5),AU s.H id (some [.i .i64 b0,.i .i64 b1,.i .i64 b2,.i .i64 b3,.i .i64 b4]),s.nx⟩:=by
  rw[oN];exact Kp 5 [b0,b1,b2,b3,b4] rfl (by omega) rfl
def SU:List (List UInt8):=[[49],
  [50],
  [50,32,50,59,32,97,94,50,61,98],
  [50,32,51,59,32,98,94,97,61,98,98],
  [51,32,50,32,50,59,32,98,94,97,61,99,59,32,99,94,97,61,98,99],
  [50,32,51,32,50,32,50,59,32,98,94,97,61,98,98,59,32,99,94,97,61,100,59,32,100,94,97,61,99,59,32,99,94,98,61,100,59,32,100,94,98,61,99,100],
  [51,32,50,32,50,32,50,59,32,98,94,50,61,100,59,32,99,94,50,61,100,59,32,98,94,97,61,99,59,32,99,94,97,61,98,99,59,32,99,94,98,61,99,100],
  [50,32,50,32,50,59,32,97,94,50,61,99,59,32,98,94,50,61,99,59,32,98,94,97,61,98,99],
  [50,32,50,32,50,59,32,98,94,97,61,98,99],
  [50,32,50,32,50,32,50,59,32,99,94,97,61,99,100,59,32,99,94,98,61,99,100]]
theorem fQ:[AV.s ⟨#[49]⟩,AV.s ⟨#[50]⟩,AV.s ⟨#[50,32,50,59,32,97,94,50,61,98]⟩,AV.s ⟨#[50,32,51,59,32,98,94,97,61,98,98]⟩,AV.s ⟨#[51,32,50,32,50,59,32,98,94,97,61,99,59,32,99,94,97,61,98,99]⟩,AV.s ⟨#[50,32,51,32,50,32,50,59,32,98,94,97,61,98,98,59,32,99,94,97,61,100,59,32,100,94,97,61,99,59,32,99,94,98,61,100,59,32,100,94,98,61,99,100]⟩,AV.s ⟨#[51,32,50,32,50,32,50,59,32,98,94,50,61,100,59,32,99,94,50,61,100,59,32,98,94,97,61,99,59,32,99,94,97,61,98,99,59,32,99,94,98,61,99,100]⟩,AV.s ⟨#[50,32,50,32,50,59,32,97,94,50,61,99,59,32,98,94,50,61,99,59,32,98,94,97,61,98,99]⟩,AV.s ⟨#[50,32,50,32,50,59,32,98,94,97,61,98,99]⟩,AV.s ⟨#[50,32,50,32,50,32,50,59,32,99,94,97,61,99,100,59,32,99,94,98,61,99,100]⟩]=SU.map fun l=>AV.s (CP l):=rfl
theorem Kr:((List.range 10).map fun k=>(Kl (SU.getD k [])).isSome)=List.replicate 10 true:=by kernel_rfl
theorem Ks{k:Nat}(hk:k<10):∃s,Kl (SU.getD k [])=some s:=by
  have h:(Kl (SU.getD k [])).isSome=true:=by
    have:=congrArg (fun l=>l[k]?) Kr;simp only[List.getElem?_map,List.getElem?_range hk,List.getElem?_replicate,if_pos hk,Option.map_some]at this;exact Option.some.inj this
  exact Option.isSome_iff_exists.1 h
theorem Af:∀l∈SU,l.length≤100:=by decide
theorem AI.shB{os:List Int}{X:List (List Int)}{Y:List (List (List Int))}(h:AI os X Y):P0 12 os X Y:=by
  obtain⟨⟨h1,h2,h3⟩,h4,h5,h6⟩:=h;have mem:∀{α:Type} (xs:List α) (d x:α),x∈xs→∃i,i<xs.length∧xs.getD i d=x:=fun xs d x hx=>by
    obtain⟨i,hi,e⟩:=List.mem_iff_getElem.1 hx;exact⟨i,hi,by simp[hi,e]⟩
  refine⟨by omega,h2,h3,fun k hk=>by have:=(h6 k hk).2.1;omega,fun x hx=>?_,fun y hy x hx=>?_,fun x hx=>?_⟩
  · obtain⟨i,hi,rfl⟩:=mem _ [] x hx;have:=(h6 i (by omega)).1.1;omega
  · obtain⟨i,hi,rfl⟩:=mem _ [] y hy;obtain⟨k,hk,rfl⟩:=mem _ [] x hx;have:=((h6 i (by omega)).2.2 k hk).1;omega
  obtain⟨i,hi,rfl⟩:=mem _ 0 x hx;have:=D0 (h4 i hi);omega
set_option maxHeartbeats 2000000 in
theorem SV(k:Nat)(hk:k<10):∀nx,AC Tryz.prog 147 nx BN [.i .i64 k] (fun nx' H' r=>∃r2,Fz H' (GH nx H') r r2∧SQ 12 r2):=by
 obtain⟨s2,XQ⟩:=Ks hk
 have hpo:=(Ko XQ).1.shB
 have hkm:((k:Int).tmod 10).toNat=k:=by rw[Int.tmod_eq_emod_of_nonneg (by omega)];omega
 have YG:(0≤(k:Int).tmod 10)=True:=eq_true (by rw[Int.tmod_eq_emod_of_nonneg (by omega)];omega)
 have hgt:(SU.map fun l=>AV.s (CP l)).getD k .j= .s (CP (SU.getD k [])):=by rw[List.getD_eq_getElem?_getD,List.getElem?_map,List.getElem?_eq_getElem (show k<SU.length from hk),List.getD_eq_getElem?_getD,List.getElem?_eq_getElem (show k<SU.length from hk)];rfl
 have ZY:(SU.getD k []).length≤100:=F7 (p:=fun l:List UInt8=>l.length≤100) Af (by simp) k
 intro nx
 refine AC.AM A9 Tryz.func147 rfl (by kernel_rfl) Tryz.ntmps147 Tryz.results147 (fun cX=>?_)
 refine sQ fun N hN=>?_;simp-dsimp-implicitDefEqProofs(disch:=omega)only[go_sem,A8];apply hN;refine AW.seq fun N hN=>?_;apply rQ;generalize RV:(⟨#[49]⟩:ByteArray)=b0
 generalize MX:(⟨#[50]⟩:ByteArray)=b1
 generalize LF:(⟨#[50,32,50,59,32,97,94,50,61,98]⟩:ByteArray)=b2
 generalize O6:(⟨#[50,32,51,59,32,98,94,97,61,98,98]⟩:ByteArray)=b3
 generalize cL:(⟨#[51,32,50,32,50,59,32,98,94,97,61,99,59,32,99,94,97,61,98,99]⟩:ByteArray)=b4
 generalize P1:(⟨#[50,32,51,32,50,32,50,59,32,98,94,97,61,98,98,59,32,99,94,97,61,100,59,32,100,94,97,61,99,59,32,99,94,98,61,100,59,32,100,94,98,61,99,100]⟩:ByteArray)=b5
 generalize kN:(⟨#[51,32,50,32,50,32,50,59,32,98,94,50,61,100,59,32,99,94,50,61,100,59,32,98,94,97,61,99,59,32,99,94,97,61,98,99,59,32,99,94,98,61,99,100]⟩:ByteArray)=b6
 generalize NW:(⟨#[50,32,50,32,50,59,32,97,94,50,61,99,59,32,98,94,50,61,99,59,32,98,94,97,61,98,99]⟩:ByteArray)=b7
 generalize sW:(⟨#[50,32,50,32,50,59,32,98,94,97,61,98,99]⟩:ByteArray)=b8
 generalize hb9:(⟨#[50,32,50,32,50,32,50,59,32,99,94,97,61,99,100,59,32,99,94,98,61,99,100]⟩:ByteArray)=b9
 have A2U:[AV.s b0,AV.s b1,AV.s b2,AV.s b3,AV.s b4,AV.s b5,AV.s b6,AV.s b7,AV.s b8,AV.s b9].getD k .j= .s (CP (SU.getD k [])):=by
  rw[←hgt,←fQ,RV,MX,LF,O6,cL,P1,kN,NW,sW,hb9]
 clear RV MX LF O6 cL P1 kN NW sW hb9
 simp-dsimp-implicitDefEqProofs(disch:=omega)only[↓Ac,go_sem,undef,hkm,YG,A2U,AJ,A8]
 apply hN;refine sQ fun N hN=>?_;simp-dsimp-implicitDefEqProofs(disch:=omega)only[go_sem,A8];refine AC.pure (.of (IV (SU.getD k []) s2 (by omega) XQ)) ?_;try simp-dsimp-implicitDefEqProofs(disch:=omega)only[go_sem,A8]
 apply hN;refine AW.seq fun N1 BC=>?_;refine sQ fun N hN=>?_;simp-dsimp-implicitDefEqProofs(disch:=omega)only[go_sem,A8];apply hN;refine AW.cond rfl ?_ ?_<;>intro h1
 ·try simp only[cn]at h1
  simp at h1
 try simp only[cn]at h1
 apply AW.skip;apply BC;refine sQ fun N hN=>?_;simp-dsimp-implicitDefEqProofs(disch:=omega)only[go_sem,A8];apply hN;apply AW.ret;simp-dsimp-implicitDefEqProofs(disch:=omega)only[go_sem];exact⟨_,.refl _,s2.1,s2.2.1,s2.2.2,rfl,hpo⟩
theorem SW(k:Nat)(hk:k<10)(nx:Nat)(H:HP):AC Tryz.prog 147 nx H [.i .i64 k] (zK nx H (SQ 12)):=AC.zz (SV k hk nx) H
theorem L7.Wa{H:HP}{i j n k:Nat}{cs ds:List AV}(h1:H i=some cs)(hk:cs[k]? =some (.h j 0 n))(h2:H j=some ds)(hn:ds.length=n)(JI:i≠j):L7 H (AU (AU H j none) i (some (cs.set k (.v n ds)))):=by
  intro l CX hl;by_cases e:l=i
  · subst e;rw[A1]at hl;cases hl;refine⟨_,h1,by simp,fun q x y hx hy=>?_⟩;rw[List.getElem?_set]at hy;split at hy
    · rename_i hq;subst hq;rw[hk]at hx;cases hx;split at hy
      · cases hy;exact .h j 0 n ds ds h2 (by rw[A0 _ _ (Ne.symm JI),A1]) (by omega) hn (fun q x y h1 h2=>by rw[Nat.zero_add,h2]at h1;cases h1;exact .refl _)
      cases hy
    rw[hx]at hy;cases hy;exact .refl _
  rw[A0 _ _ e]at hl;by_cases e2:l=j
  · subst e2;rw[A1]at hl;cases hl
  rw[A0 _ _ e2]at hl;exact⟨CX,hl,rfl,fun q x y h1 h2=>by rw[h1]at h2;cases h2;exact .refl _⟩
theorem AW.TW{cX:Ctx}{P:Program}{c:Code}{s:St}{K:Exit→St→Prop}(i j n k:Nat)(cs ds:List AV)(h1:s.H i=some cs)(hk:cs[k]? =some (.h j 0 n))(h2:s.H j=some ds)(hn:ds.length=n)(JI:i≠j)
    (hs:AW cX P c ⟨s.t,AU (AU s.H j none) i (some (cs.set k (.v n ds))),s.nx⟩ K):AW cX P c s K:=
  AW.fz (s':=⟨s.t,AU (AU s.H j none) i (some (cs.set k (.v n ds))),s.nx⟩) ⟨M3,L7.Wa h1 hk h2 hn JI,Nat.le_refl _⟩ hs
theorem FD.kO{N lo m bx k:Nat}{os:List Int}{P B:AV}{bc:List AV}{X:List (List Int)}{Y:List (List (List Int))}{G:HP}(h:FD N lo m bx os P B bc X Y G)(hk:k<os.length):
    ∃p,P= .h p 0 os.length∧G bx=some [ints os,.h p 0 os.length,B]∧G p=some (X.map ints)∧(X.map ints).length=os.length∧(lo≤p∧p<m)∧∀(G':HP) (w:List Int) (m':Nat),w.length≤6*N→m≤m'→G' p=some ((X.map ints).set k (ints w))→(∀j,j<m→j≠p→G' j=G j)→FD N lo m' bx os P B bc (X.set k w) Y G':=by
  obtain⟨h1,h2,h3,h4⟩:=h;obtain⟨p,e,g1,g2,g3⟩:=h2.MK (k:=k) (by rw[h3.p];exact hk);rw[h3.p]at e;refine⟨p,e,by rw[h1,e],g1,by rw[List.length_map,h3.p],g2,fun G' w m' hw hm hp W8=>⟨?_,g3 _ w lo m' (by rw[hp,BL _ _ _ (by rw[List.length_map,h3.p];exact hk)]) (fun j _ hj AL=>W8 j hj AL) (Nat.le_refl _) hm,h3.MK hw,h4⟩⟩;rw[W8 bx (by omega) (by omega),h1]
theorem FD.Wb{N lo m bx k l:Nat}{os:List Int}{P B:AV}{bc:List AV}{X:List (List Int)}{Y:List (List (List Int))}{G:HP}(h:FD N lo m bx os P B bc X Y G)(hk:k<os.length)(hl:l<os.length-1-k):
    ∃ b q,B= .h b 0 os.length∧G bx=some [ints os,P,.h b 0 os.length]∧G b=some bc∧bc.length=os.length∧(lo≤b∧b<m)∧bc.getD k .j= .h q 0 (os.length-1-k)∧G q=some ((Y.getD k []).map ints)∧((Y.getD k []).map ints).length=os.length-1-k∧(lo≤q∧q<m)∧b≠q∧
      ∀(G':HP) (w:List Int) (m':Nat),w.length≤6*N→m≤m'→G' q=some (((Y.getD k []).map ints).set l (ints w))→(∀j,j<m→j≠q→G' j=G j)→FD N lo m' bx os P B bc X (Y.set k ((Y.getD k []).set l w)) G':=by
  obtain⟨h1,h2,h3,h4⟩:=h;have hr:=h3.r k hk;obtain⟨b,q,e,g1,g2,_,g4,g5,g6,g7,g8⟩:=h2.Q9 (k:=k) (l:=l) (by rw[h3.c];exact hk) (by omega);rw[h3.c]at e;rw[hr]at g4;refine⟨b,q,e,by rw[h1,e],g1,by rw[h2.bl,h3.c],g2,g4,g5,by rw[List.length_map,hr],g6,g7,fun G' w m' hw hm hp W8=>⟨?_,g8 _ w lo m' (by rw[hp,BL _ _ _ (by rw[List.length_map,hr];exact hl)]) (fun j _ hj AL=>W8 j hj AL) (Nat.le_refl _) hm,h3.Q9 hw,h4⟩⟩;rw[W8 bx (by omega) (by omega),h1]
theorem FD.tG{N lo m m' bx AT:Nat}{os:List Int}{P B:AV}{bc:List AV}{X:List (List Int)}{Y:List (List (List Int))}{G G':HP}(h:FD N lo m bx os P B bc X Y G)(hk:∀i,i<m→i≠AT→G' i=G i)(hs:AT<bx)(Dz:lo≤m)(hm:m≤m'):FD N lo m' bx os P B bc X Y G':=by
  have:=h.lt;exact⟨(hk bx (by omega) (by omega)).trans h.cl,h.rg.AD (fun i cY hi=>hk i hi (by omega)) (Nat.le_refl _) hm,h.sh,h.lt⟩
theorem mkS{N:St→Prop}{C:Nat→HP→Int→Prop}{S:Nat→HP→Int→St}{G:Prop}(h1:(∀m H x,C m H x→N (S m H x))→G)(h2:∀m H x,C m H x→N (S m H x)):G:=h1 h2
theorem MP{cs:List AV}{k:Nat}{x y:AV}(h:k<cs.length):(B0 cs k [x])[k]? =some x∧(B0 cs k [x]).set k y=cs.set k y:=by
  rw[BL _ _ _ h];exact⟨by simp[h],by simp⟩
set_option maxHeartbeats 4000000 in
theorem MQ{bs:List Int}{AT:Nat}{H:HP}(hg:AY bs AT H)(pr:Int)(hp:2≤pr∧pr≤7)(nx:Nat)(J6:AT<nx):AC Tryz.prog 145 nx H [.q AT 0,.i .i64 pr] (fun nx' H' r=>∃r2,Fz H' (GH nx H') r r2∧SQ 12 r2∧AY bs AT H'∧∀i,i<nx→i≠AT→H' i=H i):=by
 obtain⟨os,OI⟩:∃os,[pr,pr,pr]=os:=⟨_,rfl⟩
 have gO:os.length=3:=by rw[←OI];rfl
 have OL:∀x∈os,-1000≤x∧x≤1000:=fun x hx=>by rw[←OI]at hx;simp at hx;omega
 refine AC.C2 A9 Tryz.func145 rfl (by kernel_rfl) Tryz.ntmps145 Tryz.results145 (fun C7 cX=>?_)
 refine sQ fun N hN=>?_;simp-dsimp-implicitDefEqProofs(disch:=omega)only[go_sem,A8];apply hN;refine sQ fun N hN=>?_;simp-dsimp-implicitDefEqProofs(disch:=omega)only[go_sem,A8];refine(BU os (by omega) _ (.cons (RP (os:=os) (by rw[←OI];exact A1 _ _ _) gO) .nil)).AG ?_
 intro m1 H1 r1 MW YU
 obtain⟨P,B,bc,rfl,K1,K3,VI,C4⟩:=FD.start (N:=12) (bx:=nx+1+5) YU (by omega) (by omega) OL (by omega)
 try simp-dsimp-implicitDefEqProofs(disch:=omega)only[go_sem,K1,K3,ints,Bool.and_true]
 apply hN;refine AW.BD (fun G1 F0=>?_);dsimp only at F0
 replace C4:FD 12 (nx+1+7) m1 (nx+1+5) os P B bc (L2 os.length) (HY os.length) G1:=by rw[←F0];exact C4
 have HR:∀i,i<nx+1→G1 i=AU H nx (some [.nl,.nl,.nl]) i:=fun i hi=>by rw[←F0,A0 _ _ (by omega),VI i (by omega),A0 _ _ (by omega)]
 obtain⟨b,q,Zn,HQ,MX,LF,O6,QL,J9,NH,WQ,zO,DT⟩:=C4.Wb (k:=0) (l:=0) (by omega) (by omega)
 refine sQ fun N hN=>?_;simp-dsimp-implicitDefEqProofs(disch:=omega)only[go_sem,A8,HQ,MX,LF,QL,J9,NH];apply hN;refine AW.seq fun N1 BC=>?_;refine AW.TW q (m1+4) 3 0 (B0 (((HY os.length).getD 0 []).map ints) 0 [.h (m1+4) 0 3]) [.i .i64 0,.i .i64 1,.i .i64 1] (A1 _ _ _) (MP (y:= .nl) (by omega)).1 ((A0 _ _ (by omega)).trans (A1 _ _ _)) rfl (by omega) ?_
 refine AW.BD (fun G2 XS=>?_);dsimp only at XS
 replace C4:=DT G2 [0,1,1] (m1+7) (by simp) (by omega) (by rw[←XS,A1,(MP (by omega)).2];rfl) (fun j hj AL=>by rw[←XS,A0 _ _ AL,A0 _ _ (by omega),A0 _ _ AL,A0 _ _ (by omega)])
 have ME:∀i,i<nx+1→G2 i=AU H nx (some [.nl,.nl,.nl]) i:=fun i hi=>by rw[←HR i hi,←XS,A0 _ _ (by omega),A0 _ _ (by omega),A0 _ _ (by omega),A0 _ _ (by omega)]
 have n6:AY bs AT G2:=hg.AD ((ME AT (by omega)).trans (A0 _ _ (by omega)))
 simp-dsimp-implicitDefEqProofs(disch:=omega)only[go_sem];refine sQ fun N hN=>?_;simp-dsimp-implicitDefEqProofs(disch:=omega)only[go_sem,A8];refine(AK n6 2 (by omega) _).AG ?_
 rintro m2 H2 r2 TI ⟨⟨x,rfl,hx⟩,LA,EX⟩
 replace C4:=C4.tG (G':=H2) (m':=m2) (fun i hi AL=>EX i (by omega) AL) (by omega) (by omega) (by omega)
 have LJ:∀i,i<nx+1→i≠AT→H2 i=AU H nx (some [.nl,.nl,.nl]) i:=fun i hi AL=>(EX i (by omega) AL).trans (ME i hi)
 try simp-dsimp-implicitDefEqProofs(disch:=omega)only[go_sem,A8]
 apply hN;refine AW.cond rfl ?_ ?_<;>intro h1
 ·try simp only[cn]at h1
  obtain⟨p,zR,IS,PR,OM,Ka,DT⟩:=C4.kO (k:=0) (by omega);refine AW.seq fun N hN=>?_;apply mkS (N:=N)
  ·intro key;refine AW.KX A9 (by kernel_rfl) [true,false,true,true,false,false,false,false] (.br 1 (.br 4 (.br 5 (.br 6 (.br 7 .nil .nil) .nil) .nil) .nil) (.br 4 (.br 1 (.br 5 (.br 6 (.br 7 .nil .nil) .nil) .nil) (.br 5 (.br 1 (.br 6 (.br 7 .nil .nil) .nil) .nil) .nil)) .nil)) (by kernel_rfl) ?_;simp-dsimp-implicitDefEqProofs(disch:=omega)only[go_sem,A8,IS,PR,OM];refine⟨?_,?_⟩;all_goals
    refine(AK LA pr (by omega) _).AG ?_;rintro m3 H3 r3 S9 ⟨⟨x3,rfl,Wc⟩,KS,O3⟩;have iX:=(O3 p (by omega) (by omega)).trans PR;have cL:=(O3 (nx+1+5) (by omega) (by omega)).trans IS;try simp-dsimp-implicitDefEqProofs(disch:=omega)only[go_sem,A8,iX,OM,cL,and_self]
    exact key m3 H3 x3 (And.intro S9 (And.intro KS O3))
  intro m3 H3 x3 hC;obtain⟨S9,KS,O3⟩:=hC;replace C4:=C4.tG (G':=H3) (m':=m2) (fun i hi AL=>O3 i (by omega) AL) (by omega) (by omega) (by omega);obtain⟨p',tH,-,-,-,-,kP⟩:=C4.kO (k:=0) (by omega);obtain rfl:p'=p:=by rw[zR]at tH;injection tH with e;exact e.symm
  apply hN;refine AW.TW p' (m2+5) 3 0 (B0 ((L2 os.length).map ints) 0 [.h (m2+5) 0 3]) [.i .i64 0,.i .i64 0,.i .i64 x3] (A1 _ _ _) (MP (y:= .nl) (by omega)).1 ((A0 _ _ (by omega)).trans (A1 _ _ _)) rfl (by omega) ?_;refine AW.BD (fun G4 Wd=>?_);dsimp only at Wd;replace C4:=kP G4 [0,0,x3] m3 (by simp) (by omega) (by rw[←Wd,A1,(MP (by omega)).2];rfl) (fun j hj AL=>by rw[←Wd,A0 _ _ AL,A0 _ _ (by omega),A0 _ _ AL,A0 _ _ (by omega)]);have dM:∀i,i<nx+1→i≠AT→G4 i=AU H nx (some [.nl,.nl,.nl]) i:=fun i hi AL=>by rw[←LJ i hi AL,←O3 i (by omega) AL,←Wd,A0 _ _ (by omega),A0 _ _ (by omega),A0 _ _ (by omega),A0 _ _ (by omega)]
  have ZS:AY bs AT G4:=KS.AD (by rw[←Wd,A0 _ _ (by omega),A0 _ _ (by omega),A0 _ _ (by omega),A0 _ _ (by omega)]);obtain⟨p,zR,IS,PR,OM,Ka,DT⟩:=C4.kO (k:=1) (by omega);simp-dsimp-implicitDefEqProofs(disch:=omega)only[go_sem];refine AW.name fun N hN=>?_;apply mkS (N:=N)
  ·intro key;refine AW.KX A9 (by kernel_rfl) [true,false,true,true,false,false,false,false] (.br 1 (.br 4 (.br 5 (.br 6 (.br 7 .nil .nil) .nil) .nil) .nil) (.br 4 (.br 1 (.br 5 (.br 6 (.br 7 .nil .nil) .nil) .nil) (.br 5 (.br 1 (.br 6 (.br 7 .nil .nil) .nil) .nil) .nil)) .nil)) (by kernel_rfl) ?_;simp-dsimp-implicitDefEqProofs(disch:=omega)only[go_sem,A8,IS,PR,OM];refine⟨?_,?_⟩;all_goals
    refine(AK ZS pr (by omega) _).AG ?_;rintro m5 H5 r5 uI ⟨⟨x5,rfl,We⟩,fR,J7⟩;have iX:=(J7 p (by omega) (by omega)).trans PR;have cL:=(J7 (nx+1+5) (by omega) (by omega)).trans IS;try simp-dsimp-implicitDefEqProofs(disch:=omega)only[go_sem,A8,iX,OM,cL,and_self]
    exact key m5 H5 x5 (And.intro uI (And.intro fR J7))
  intro m5 H5 x5 hC;obtain⟨uI,fR,J7⟩:=hC;replace C4:=C4.tG (G':=H5) (m':=m3) (fun i hi AL=>J7 i (by omega) AL) (by omega) (by omega) (by omega);obtain⟨p',tH,-,-,-,-,kP⟩:=C4.kO (k:=1) (by omega);obtain rfl:p'=p:=by rw[zR]at tH;injection tH with e;exact e.symm
  apply hN;apply BC;first|refine AW.TW p' (m3+5) 3 1 (B0 (((L2 os.length).set 0 [0,0,x3]).map ints) 1 [.h (m3+5) 0 3]) [.i .i64 0,.i .i64 0,.i .i64 x5] (A1 _ _ _) (MP (y:= .nl) (by omega)).1 ((A0 _ _ (by omega)).trans (A1 _ _ _)) rfl (by omega) ?_|skip
  refine AW.BD (fun G6 P3=>?_);dsimp only at P3;obtain⟨M,X6,kN,fS,Kt⟩:∃M X6,FD 12 (nx+1+7) M (nx+1+5) os P B bc X6 ((HY os.length).set 0 (((HY os.length).getD 0 []).set 0 [0,1,1])) G6∧AY bs AT G6∧∀i,i<nx+1→i≠AT→G6 i=AU H nx (some [.nl,.nl,.nl]) i:=by
   first
   |exact⟨m5,_,kP G6 [0,0,x5] m5 (by simp) (by omega) (by rw[←P3,A1,(MP (by omega)).2];rfl) (fun j hj AL=>by rw[←P3,A0 _ _ AL,A0 _ _ (by omega),A0 _ _ AL,A0 _ _ (by omega)]),fR.AD (by rw[←P3,A0 _ _ (by omega),A0 _ _ (by omega),A0 _ _ (by omega),A0 _ _ (by omega)]),fun i hi AL=>by rw[←dM i hi AL,←J7 i (by omega) AL,←P3,A0 _ _ (by omega),A0 _ _ (by omega),A0 _ _ (by omega),A0 _ _ (by omega)]⟩
   |exact⟨m2,_,by rw[←P3];exact C4,by rw[←P3];exact LA,fun i hi AL=>by rw[←P3];exact LJ i hi AL⟩
  have HQ:=kN.cl;have h60:=(Kt nx (by omega) (by omega)).trans (A1 _ _ _);simp-dsimp-implicitDefEqProofs(disch:=omega)only[go_sem];refine sQ fun N hN=>?_;simp-dsimp-implicitDefEqProofs(disch:=omega)only[go_sem,A8,HQ,h60,kN.JD.1,kN.JD.2];apply hN;apply AW.ret;simp-dsimp-implicitDefEqProofs(disch:=omega)only[go_sem];exact⟨_,fun _ _ h=>h,_,kN.fz (fun i hi=>A0 _ _ (by omega)) (by omega),⟨os,_,_,rfl,kN.sh⟩,fS.AD (A0 _ _ (by omega)),fun i hi AL=>by rw[A0 _ _ (by omega),Kt i (by omega) AL,A0 _ _ (by omega)]⟩
 try simp only[cn]at h1
 apply AW.skip;apply BC;first|refine AW.TW p' (m3+5) 3 1 (B0 (((L2 os.length).set 0 [0,0,x3]).map ints) 1 [.h (m3+5) 0 3]) [.i .i64 0,.i .i64 0,.i .i64 x5] (A1 _ _ _) (MP (y:= .nl) (by omega)).1 ((A0 _ _ (by omega)).trans (A1 _ _ _)) rfl (by omega) ?_|skip
 refine AW.BD (fun G6 P3=>?_);dsimp only at P3
 obtain⟨M,X6,kN,fS,Kt⟩:∃M X6,FD 12 (nx+1+7) M (nx+1+5) os P B bc X6 ((HY os.length).set 0 (((HY os.length).getD 0 []).set 0 [0,1,1])) G6∧AY bs AT G6∧∀i,i<nx+1→i≠AT→G6 i=AU H nx (some [.nl,.nl,.nl]) i:=by
  first
  |exact⟨m5,_,kP G6 [0,0,x5] m5 (by simp) (by omega) (by rw[←P3,A1,(MP (by omega)).2];rfl) (fun j hj AL=>by rw[←P3,A0 _ _ AL,A0 _ _ (by omega),A0 _ _ AL,A0 _ _ (by omega)]),fR.AD (by rw[←P3,A0 _ _ (by omega),A0 _ _ (by omega),A0 _ _ (by omega),A0 _ _ (by omega)]),fun i hi AL=>by rw[←dM i hi AL,←J7 i (by omega) AL,←P3,A0 _ _ (by omega),A0 _ _ (by omega),A0 _ _ (by omega),A0 _ _ (by omega)]⟩
  |exact⟨m2,_,by rw[←P3];exact C4,by rw[←P3];exact LA,fun i hi AL=>by rw[←P3];exact LJ i hi AL⟩
 have HQ:=kN.cl
 have h60:=(Kt nx (by omega) (by omega)).trans (A1 _ _ _)
 simp-dsimp-implicitDefEqProofs(disch:=omega)only[go_sem];refine sQ fun N hN=>?_;simp-dsimp-implicitDefEqProofs(disch:=omega)only[go_sem,A8,HQ,h60,kN.JD.1,kN.JD.2];apply hN;apply AW.ret;simp-dsimp-implicitDefEqProofs(disch:=omega)only[go_sem];exact⟨_,fun _ _ h=>h,_,kN.fz (fun i hi=>A0 _ _ (by omega)) (by omega),⟨os,_,_,rfl,kN.sh⟩,fS.AD (A0 _ _ (by omega)),fun i hi AL=>by rw[A0 _ _ (by omega),Kt i (by omega) AL,A0 _ _ (by omega)]⟩
theorem MR{bs:List Int}{AT:Nat}{H:HP}(hg:AY bs AT H)(pr:Int)(hp:2≤pr∧pr≤7)(nx:Nat)(J6:AT<nx):AC Tryz.prog 145 nx H [.q AT 0,.i .i64 pr] (sK bs AT nx H (SQ 12)):=AC.zs J6 (MQ hg pr hp nx J6)
end Go.Proofs.YtghmeeifjeafmaaGreat
