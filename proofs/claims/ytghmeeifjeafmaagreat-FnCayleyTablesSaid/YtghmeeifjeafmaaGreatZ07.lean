import Derived.Test.YtghmeeifjeafmaaGreatZ06
set_option linter.unusedVariables false
set_option linter.unusedSimpArgs false
namespace Go.Proofs.YtghmeeifjeafmaaGreat
theorem UC{α:Type}(d:α){a b:List α}(hl:a.length=b.length){k:Nat}(hk:k<a.length)(h:a.take k=b.take k)(he:a.getD k d=b.getD k d):a.take (k+1)=b.take (k+1):=by
  rw[List.take_add_one,List.take_add_one,h];congr 1
  simp[hk,show k<b.length by omega]at he;simp[hk,show k<b.length by omega,he]
def J0(p:Int):Prop:=p=2∨p=3∨p=5∨p=7
theorem GC(p:Int):BG Tryz.prog 128 [.i .i64 p] (.b (tf (J0 p))):=by
 refine BG.AM A9 Tryz.func128 rfl (by kernel_rfl) Tryz.ntmps128 Tryz.results128 (.b _) (fun nx cX=>?_)
 refine sQ fun N hN=>?_;simp-dsimp-implicitDefEqProofs(disch:=omega)only[go_sem,];apply hN;refine sQ fun N hN=>?_;simp-dsimp-implicitDefEqProofs(disch:=omega)only[go_sem,];refine C9.mk' (fun h1=>?_) (fun h1=>?_)
 ·try simp only[cn]at h1
  try simp-dsimp-implicitDefEqProofs(disch:=omega)only[go_sem,]
  refine C9.mk' (fun h2=>?_) (fun h2=>?_)
  ·try simp only[cn]at h2
   try simp-dsimp-implicitDefEqProofs(disch:=omega)only[go_sem,]
   refine C9.mk' (fun h3=>?_) (fun h3=>?_)
   ·(try simp only[cn]at h3);try simp-dsimp-implicitDefEqProofs(disch:=omega)only[go_sem,]
    apply hN;apply AW.ret;simp-dsimp-implicitDefEqProofs(disch:=omega)only[go_sem];exact bt (by simp_all[J0,tf];try rfl)
   try simp only[cn]at h3
   try simp-dsimp-implicitDefEqProofs(disch:=omega)only[go_sem,]
   apply hN;apply AW.ret;simp-dsimp-implicitDefEqProofs(disch:=omega)only[go_sem];exact bt (by simp_all[J0,tf];try rfl)
  try simp only[cn]at h2
  try simp-dsimp-implicitDefEqProofs(disch:=omega)only[go_sem,]
  apply hN;apply AW.ret;simp-dsimp-implicitDefEqProofs(disch:=omega)only[go_sem];exact bt (by simp_all[J0,tf];try rfl)
 try simp only[cn]at h1
 try simp-dsimp-implicitDefEqProofs(disch:=omega)only[go_sem,]
 apply hN;apply AW.ret;simp-dsimp-implicitDefEqProofs(disch:=omega)only[go_sem];exact bt (by simp_all[J0,tf];try rfl)
theorem M0(p:Int):BG Tryz.prog 105 [.i .i64 p] (.b (tf (J0 p))):=by
 refine BG.AM A9 Tryz.func105 rfl (by kernel_rfl) Tryz.ntmps105 Tryz.results105 (.b _) (fun nx cX=>?_)
 refine sQ fun N hN=>?_;simp-dsimp-implicitDefEqProofs(disch:=omega)only[go_sem,];apply hN;refine sQ fun N hN=>?_;simp-dsimp-implicitDefEqProofs(disch:=omega)only[go_sem,];refine C9.mk' (fun h1=>?_) (fun h1=>?_)
 ·try simp only[cn]at h1
  try simp-dsimp-implicitDefEqProofs(disch:=omega)only[go_sem,]
  refine C9.mk' (fun h2=>?_) (fun h2=>?_)
  ·try simp only[cn]at h2
   try simp-dsimp-implicitDefEqProofs(disch:=omega)only[go_sem,]
   refine C9.mk' (fun h3=>?_) (fun h3=>?_)
   ·(try simp only[cn]at h3);try simp-dsimp-implicitDefEqProofs(disch:=omega)only[go_sem,]
    apply hN;apply AW.ret;simp-dsimp-implicitDefEqProofs(disch:=omega)only[go_sem];exact bt (by simp_all[J0,tf];try rfl)
   try simp only[cn]at h3
   try simp-dsimp-implicitDefEqProofs(disch:=omega)only[go_sem,]
   apply hN;apply AW.ret;simp-dsimp-implicitDefEqProofs(disch:=omega)only[go_sem];exact bt (by simp_all[J0,tf];try rfl)
  try simp only[cn]at h2
  try simp-dsimp-implicitDefEqProofs(disch:=omega)only[go_sem,]
  apply hN;apply AW.ret;simp-dsimp-implicitDefEqProofs(disch:=omega)only[go_sem];exact bt (by simp_all[J0,tf];try rfl)
 try simp only[cn]at h1
 try simp-dsimp-implicitDefEqProofs(disch:=omega)only[go_sem,]
 apply hN;apply AW.ret;simp-dsimp-implicitDefEqProofs(disch:=omega)only[go_sem];exact bt (by simp_all[J0,tf];try rfl)
theorem GM(n lo hi:Int):BG Tryz.prog 151 [.i .i64 n,.i .i64 lo,.i .i64 hi] (.b (tf (lo≤n∧n≤hi))):=by
 refine BG.AM A9 Tryz.func151 rfl (by kernel_rfl) Tryz.ntmps151 Tryz.results151 (.b _) (fun nx cX=>?_)
 refine sQ fun N hN=>?_;simp-dsimp-implicitDefEqProofs(disch:=omega)only[go_sem,];apply hN;refine sQ fun N hN=>?_;simp-dsimp-implicitDefEqProofs(disch:=omega)only[go_sem,];refine C9.mk' (fun h1=>?_) (fun h1=>?_)
 ·try simp only[cn]at h1
  try simp-dsimp-implicitDefEqProofs(disch:=omega)only[go_sem,]
  apply hN;apply AW.ret;simp-dsimp-implicitDefEqProofs(disch:=omega)only[go_sem];exact bt (by simp_all[tf];try omega)
 try simp only[cn]at h1
 try simp-dsimp-implicitDefEqProofs(disch:=omega)only[go_sem,]
 apply hN;apply AW.ret;simp-dsimp-implicitDefEqProofs(disch:=omega)only[go_sem];exact bt (by simp_all[tf];try omega)
theorem M1(n lo hi:Int):BG Tryz.prog 70 [.i .i64 n,.i .i64 lo,.i .i64 hi] (.b (tf (lo≤n∧n≤hi))):=by
 refine BG.AM A9 Tryz.func70 rfl (by kernel_rfl) Tryz.ntmps70 Tryz.results70 (.b _) (fun nx cX=>?_)
 refine sQ fun N hN=>?_;simp-dsimp-implicitDefEqProofs(disch:=omega)only[go_sem,];apply hN;refine sQ fun N hN=>?_;simp-dsimp-implicitDefEqProofs(disch:=omega)only[go_sem,];refine C9.mk' (fun h1=>?_) (fun h1=>?_)
 ·try simp only[cn]at h1
  try simp-dsimp-implicitDefEqProofs(disch:=omega)only[go_sem,]
  apply hN;apply AW.ret;simp-dsimp-implicitDefEqProofs(disch:=omega)only[go_sem];exact bt (by simp_all[tf];try omega)
 try simp only[cn]at h1
 try simp-dsimp-implicitDefEqProofs(disch:=omega)only[go_sem,]
 apply hN;apply AW.ret;simp-dsimp-implicitDefEqProofs(disch:=omega)only[go_sem];exact bt (by simp_all[tf];try omega)
def iF(a:List Int):Prop:=∀j,j<a.length→a.getD j 0=0
theorem UD(a:List Int)(QR:a.length≤1099511627776):BG Tryz.prog 73 [ints a] (.b (tf (iF a))):=by
 refine BG.AM A9 Tryz.func73 rfl (by kernel_rfl) Tryz.ntmps73 Tryz.results73 (.b _) (fun nx cX=>?_)
 refine sQ fun N hN=>?_;simp-dsimp-implicitDefEqProofs(disch:=omega)only[go_sem,ints,A6];apply hN;refine AW.seq fun N1 BC=>?_;refine sQ fun N hN=>?_;simp-dsimp-implicitDefEqProofs(disch:=omega)only[go_sem,ints,A6];apply hN;apply AW.block;refine AW.AF (α:=Nat) (fun x=>sl 14 [(5,ints a),(6,.i .i64 a.length),(7,.i .i64 x)]) (fun _=>BN) (fun x m=>x≤a.length∧∀j,j<x→a.getD j 0=0) (fun x=>a.length-x) (0) ?_ ?_ (fun _ _ h=>h) ?_
 ·exact⟨by omega,by intro j hj;omega⟩
 ·simp(disch:=omega) [AO,AQ,sl,AJ,ints,rows,A4,ints,A6,AJ]<;>omega
 skip
 rintro k m ⟨hk,hI⟩
 simp-dsimp-implicitDefEqProofs(disch:=omega)only[go_sem];refine sQ fun N hN=>?_;simp-dsimp-implicitDefEqProofs(disch:=omega)only[go_sem,ints,A6];apply hN;refine AW.seq fun N2 BM=>?_;refine AW.cond rfl ?_ ?_<;>intro h1
 ·try simp only[cn]at h1
  apply AW.skip;apply BM;refine AW.seq fun N3 BQ=>?_;apply AW.block;refine sQ fun N hN=>?_;simp-dsimp-implicitDefEqProofs(disch:=omega)only[go_sem,ints,A6];apply hN;refine sQ fun N hN=>?_;simp-dsimp-implicitDefEqProofs(disch:=omega)only[go_sem,ints,A6];apply hN;refine AW.cond rfl ?_ ?_<;>intro h2
  ·try simp only[cn]at h2
   refine sQ fun N hN=>?_;simp-dsimp-implicitDefEqProofs(disch:=omega)only[go_sem,ints,A6];apply hN;apply AW.ret;simp-dsimp-implicitDefEqProofs(disch:=omega)only[go_sem];exact bt (CE (fun h=>h2 (h k (by omega)))).symm
  try simp only[cn]at h2
  apply AW.skip;apply BQ;apply rQ;simp-dsimp-implicitDefEqProofs(disch:=omega)only[go_sem,ints,A6];refine⟨k+1,?_,fun _ _ h=>h,?_,?_⟩
  ·simp(disch:=omega) [AO,AQ,sl,AJ,ints,rows,A4,ints,A6,AJ]<;>omega
  ·refine⟨by omega,fun j hj=>?_⟩;by_cases e:j=k
   ·subst e;exact h2
   exact hI j (by omega)
  first|omega|(simp only;omega)
 try simp only[cn]at h1
 apply AW.exit;apply BC;refine sQ fun N hN=>?_;simp-dsimp-implicitDefEqProofs(disch:=omega)only[go_sem,ints,A6];apply hN;apply AW.ret;simp-dsimp-implicitDefEqProofs(disch:=omega)only[go_sem];exact bt (EN (fun j hj=>hI j (by omega))).symm
theorem D0{p:Int}(h:J0 p):2≤p∧p≤7:=by unfold J0 at h;omega
structure MY(pw:List (List Int))(br:List (List (List Int))):Prop where
  n:pw.length≤1048576
  v:∀i,(pw.getD i []).length≤1048576
  b:br.length≤1048576
  r:∀i,(br.getD i []).length≤1048576
  e:∀i j,((br.getD i []).getD j []).length≤1048576
structure B6(a:List (List Int)):Prop where
  n:a.length≤1048576
  v:∀x∈a,x.length≤1048576
structure E9(a:List (List (List Int))):Prop where
  n:a.length≤1048576
  v:∀x∈a,B6 x
theorem IA{α:Type}{P:α→Prop}{xs:List α}{d:α}(h:∀x∈xs,P x)(hd:P d)(i:Nat):P (xs.getD i d):=by
  by_cases hi:i<xs.length
  · exact h _ (by simp[hi])
  simp[List.getD_eq_getElem?_getD,List.getElem?_eq_none (Nat.le_of_not_lt hi),hd]
theorem B6.nil:B6 []:=⟨by simp,by simp⟩
theorem B6.getD{a:List (List Int)}(h:B6 a)(i:Nat):(a.getD i []).length≤1048576:=IA (P:=fun x:List Int=>x.length≤1048576) h.v (by simp) i
theorem MY.of{pw:List (List Int)}{br:List (List (List Int))}(h1:B6 pw)(h2:E9 br):MY pw br:=
  ⟨h1.n,h1.getD,h2.n,fun i=>(IA h2.v .nil i).n,fun i j=>(IA h2.v .nil i).getD j⟩
def Le(H H':HP):Prop:=∀i c,H i=some c→H' i=some c
theorem Le.refl(H:HP):Le H H:=fun _ _ h=>h
theorem AC.exact{P:Program}{f:FuncId}{nx:Nat}{H:HP}{xs:List AV}{Q:Nat→HP→AV→Prop}(h:AC P f nx H xs (fun nx' H' r=>∃H2,Le H2 H'∧Q nx' H2 r)):AC P f nx H xs Q:=by
  refine⟨h.1,fun L Av w us a b c=>(h.2 L Av w us a b c).mono ?_⟩;rintro e w' ⟨u,r,L',nx',H',h1,⟨H2,h2,CR⟩,h3,h4,h5,h6,h7,h8⟩;have hm:∀b,MM L' H2 Av b→MM L' H' Av b:=fun b hb=>Or.elim hb .inl (fun hl=> .inr (QX h2 hl))
  exact⟨u,r,L',nx',H2,h1,CR,h3,h4,h5,h6.sub h2,⟨h7.le,h7.os,h7.tape,h7.output,h7.size,h7.AD,fun b hb hl=>h7.old b hb (QX h2 hl)⟩,
    h8.mono (fun _ _ h=>h) (fun _ _ _=>rfl) (fun b _ hb=>hm b hb)⟩
theorem AC.AG{P:Program}{f:FuncId}{nx:Nat}{H:HP}{xs:List AV}{Q Q':Nat→HP→AV→Prop}(h:AC P f nx H xs Q)(hq:∀n H r,nx≤n→Q n H r→Q' n H r):AC P f nx H xs Q':=
  ⟨h.1,fun L Av w us a b c=>(h.2 L Av w us a b c).mono fun e w' ⟨u,r,L',nx',H',h1,h2,h3,h4⟩=>⟨u,r,L',nx',H',h1,hq _ _ _ h3 h2,h3,h4⟩⟩
theorem AC.C2{P:Program}{Γ:BV}(hG:GJ P Γ){f:FuncId}{fn:Func}{c:Code}{n:Nat}{rs:Array ResultVar}(hf:P.funcs[f]? =some fn)(hb:fn.body=some c)(hn:(fn.name== "runtime.NumGoroutine")=false)(eC:fn.ntmps=n)(PH:fn.results=rs){xs:List AV}{nx:Nat}{H:HP}{Q:Nat→HP→AV→Prop}
    (h:(∀i,nx≤i→H i=none)→∀cX:Ctx,AW cX P c ⟨xs++List.replicate (n-xs.length) .j,H,nx⟩ (WM Γ rs.toList (fun nx' H' r=>∃H2,Le H2 H'∧Q nx' H2 r))):AC P f nx H xs Q:=by
  refine AC.exact ⟨⟨fn,hf,by rw[hb];rfl,hn⟩,fun L Av w us a b c=>?_⟩;have C7:∀i,nx≤i→H i=none:=by
    intro i hi;cases hh:H i with
    |none=>rfl
    |some cs=>obtain⟨l,h1,_⟩:=a.node i cs hh;rw[b i hi]at h1;cases h1
  exact(AC.AM hG hf hb hn eC PH (h C7)).2 L Av w us a b c
def DM(n:Nat)(f:Nat→Int):List AV:=(List.range n).map fun k=> .i .i64 (f k)
def vec(n:Nat)(f:Nat→Int):List Int:=(List.range n).map f
def AX(f:Nat→Int)(j:Nat)(x:Int):Nat→Int:=fun k=>if k=j then x else f k
theorem E0{n:Nat}{f:Nat→Int}:(DM n f).length=n:=by simp[DM]
theorem wL{n:Nat}{f:Nat→Int}{j:Nat}(h:j<n):(DM n f).getD j .j= .i .i64 (f j):=by simp[DM,h]
theorem FJ{n:Nat}{f g:Nat→Int}(h:∀k,k<n→f k=g k):DM n f=DM n g:=by
  apply List.map_congr_left;intro k hk;rw[h k (List.mem_range.1 hk)]
theorem TA{n:Nat}{f:Nat→Int}{j:Nat}{x:Int}(h:j<n):B0 (DM n f) j [.i .i64 x]=DM n (AX f j x):=by
  rw[BL _ _ _ (by rw[E0];exact h)];apply List.ext_getElem?;intro i;rw[List.getElem?_set];by_cases hi:j=i
  · subst hi;simp[DM,AX,h]
  simp only[hi,if_false,DM,List.getElem?_map];by_cases hn:i<n
  · simp[hn,AX,Ne.symm hi]
  simp[hn]
theorem wM{g f:Nat→Int}{k:Nat}{x:Int}(h:x=g k):AX (fun j=>if j<k then g j else f j) k x=fun j=>if j<k+1 then g j else f j:=by
  funext j
  unfold AX;by_cases h1:j=k
  · subst h1;simp[h]
  by_cases h2:j<k
  · simp only[h1,h2,if_false,if_true];rw[if_pos (by omega)]
  simp only[h1,h2,if_false];rw[if_neg (by omega)]
theorem C1{n:Nat}{f:Nat→Int}:(vec n f).length=n:=by simp[vec]
theorem PM{n:Nat}{f:Nat→Int}{j:Nat}(h:j<n):(vec n f).getD j 0=f j:=by simp[vec,h]
theorem HT{n:Nat}{f:Nat→Int}:(vec n f).map (.i .i64)=DM n f:=by simp[vec,DM]
theorem iG{n:Nat}{f g:Nat→Int}(h:∀k,k<n→f k=g k):vec n f=vec n g:=by
  apply List.map_congr_left;intro k hk;rw[h k (List.mem_range.1 hk)]
theorem YO(a:List Int):a=vec a.length (fun k=>a.getD k 0):=by
  apply List.ext_getElem?;intro i;by_cases h:i<a.length<;>simp[vec,h]
theorem KD(a:List Int):a.map (.i .i64)=DM a.length (fun k=>a.getD k 0):=by
  rw[←HT,←YO]
theorem CA{n:Nat}:List.replicate n (.i .i64 0)=DM n (fun _=>0):=by
  apply List.ext_getElem?;intro i;by_cases h:i<n<;>simp[DM,h]
theorem Rp{k:IntKind}{a:List Int}:(∀z:AV,z∈List.map (AV.i k) a→one z=true)=True:=by
  simp only[eq_iff_iff,iff_true,List.mem_map];rintro z ⟨x,_,rfl⟩;rfl
attribute [go_sem] K4 E0 wL TA Rp
theorem tn1(k:Nat):((k:Int)+1).toNat=k+1:=by omega
theorem tn2(k q:Nat):((k:Int)+1+(q:Int)).toNat=k+1+q:=by omega
theorem tn4(k q:Nat):(((k+1+q:Nat):Int)-(k:Int)-1).toNat=q:=by omega
attribute [go_sem] tn1 tn2 tn4
def mT(nx nx':Nat)(H H':HP)(r:AV)(n:Nat)(f:Nat→Int):Prop:=∃id,r= .h id 0 n∧nx≤id∧id<nx'∧H'=AU H id (some (DM n f))
theorem mT.own{nx nx':Nat}{H H':HP}{r:AV}{n:Nat}{f:Nat→Int}(h:mT nx nx' H H' r n f):∃ids,Own nx nx' H' r (ints (vec n f)) ids:=by
  obtain⟨id,rfl,h1,h2,rfl⟩:=h;exact⟨_,Own.ints (by rw[A1,HT]) C1.symm h1 h2⟩
theorem mT.Yr{P:Program}{f:FuncId}{xs:List AV}{n:Nat}{g:Nat→Int}(h:∀nx,AC P f nx BN xs (fun nx' H' r=>mT nx nx' BN H' r n g)):W9 P f xs (ints (vec n g)):=
  fun nx=>(h nx).mono fun _ _ _ h=>h.own
theorem eF{H H':HP}{id:Nat}{c:Option (List AV)}(h:∀i c,i≠id→H i=some c→H' i=some c)(h2:∀d,c=some d→H' id=some d):Le (AU H id c) H':=by
  intro i d hi;by_cases e:i=id
  · subst e;rw[A1]at hi;exact h2 d hi
  rw[A0 _ _ e]at hi;exact h i d e hi
theorem CB(a:List Int)(ha:a.length≤1099511627776)(nx:Nat)(H:HP):AC Tryz.prog 104 nx H [ints a] (fun nx' H' r=>mT nx nx' H H' r a.length (fun k=>a.getD k 0)):=by
 refine AC.C2 A9 Tryz.func104 rfl (by kernel_rfl) Tryz.ntmps104 Tryz.results104 (fun C7 cX=>?_)
 refine sQ fun N hN=>?_;simp-dsimp-implicitDefEqProofs(disch:=omega)only[go_sem,ints];apply hN;refine sQ fun N hN=>?_;simp-dsimp-implicitDefEqProofs(disch:=omega)only[go_sem,ints];apply hN;apply AW.ret;simp-dsimp-implicitDefEqProofs(disch:=omega)only[go_sem];refine⟨_,?_,nx+1+2,rfl,by omega,by omega,rfl⟩
 rw[KD]
 intro i c hi
 have BW:H i=some c→i<nx:=fun h=>by apply Classical.byContradiction;intro hn;rw[C7 i (by omega)]at h;cases h
 simp only[AU]at hi ⊢
 split at hi
 ·rename_i e;subst e;cases hi;repeat (first|rw[if_pos rfl]|rw[if_neg (by omega)])
 have:=BW hi;repeat rw[if_neg (by omega)]
 exact hi
def CpI(nx nx':Nat)(H H':HP)(r:AV)(n:Nat)(f:Nat→Int):Prop:=mT nx nx' H H' r n f∨(n=0∧r= .v 0 []∧H'=H)
theorem R.Bg{L:LM}{w:World}{M:Nat→Prop}{u:Value}(h:R L w M .nl u):R L w M (.v 0 []) u:=by rw[h.DZ];exact .v0 _ _
theorem AC.Rq{P:Program}{f:FuncId}{nx:Nat}{H:HP}{xs:List AV}{Q:Nat→HP→AV→Prop}(h:AC P f nx H xs (fun nx' H' r=>Q nx' H' r∨(r= .nl∧Q nx' H' (.v 0 [])))):AC P f nx H xs Q:=by
  refine⟨h.1,fun L Av w us a b c=>(h.2 L Av w us a b c).mono ?_⟩;rintro e w' ⟨u,r,L',nx',H',h1,h2,h3,h4,h5,h6,h7,h8⟩;rcases h2 with h2|⟨rfl,h2⟩
  · exact⟨u,r,L',nx',H',h1,h2,h3,h4,h5,h6,h7,h8⟩
  exact⟨u,_,L',nx',H',h1,h2,h3,h4,h5,h6,h7,h8.Bg⟩
theorem EC(a:List Int)(ha:a.length≤1099511627776)(nx:Nat)(H:HP):AC Tryz.prog 56 nx H [ints a] (fun nx' H' r=>CpI nx nx' H H' r a.length (fun k=>a.getD k 0)):=by
  refine AC.Rq ?_;refine AC.C2 A9 Tryz.func56 rfl (by kernel_rfl) Tryz.ntmps56 Tryz.results56 (fun C7 cX=>?_);refine sQ fun N hN=>?_;simp-dsimp-implicitDefEqProofs(disch:=omega)only[go_sem,ints];apply hN;refine AW.seq fun N1 BC=>?_;refine sQ fun N hN=>?_;simp-dsimp-implicitDefEqProofs(disch:=omega)only[go_sem,ints];refine⟨⟨_,_,rfl,rfl⟩,⟨fun h0=>?_,?_⟩⟩
  · apply hN;refine AW.DX rfl ?_;refine sQ fun N hN=>?_;simp-dsimp-implicitDefEqProofs(disch:=omega)only[go_sem,];apply hN;apply AW.ret;simp-dsimp-implicitDefEqProofs(disch:=omega)only[go_sem];exact⟨H,Le.refl _,.inr (.inr ⟨h0,rfl,rfl⟩)⟩
  apply hN;refine AW.C8 rfl ?_;apply AW.skip;apply BC;refine sQ fun N hN=>?_;simp-dsimp-implicitDefEqProofs(disch:=omega)only[go_sem,ints];apply hN;apply AW.ret;simp-dsimp-implicitDefEqProofs(disch:=omega)only[go_sem];refine⟨_,?_,.inl (.inl ⟨_,rfl,?_,?_,rfl⟩)⟩
  · rw[KD];intro i c hi;have BW:H i=some c→i<nx:=fun h=>by apply Classical.byContradiction;intro hn;rw[C7 i (by omega)]at h;cases h
    simp only[AU]at hi ⊢;split at hi
    · rename_i e;subst e;cases hi;repeat (first|rw[if_pos rfl]|rw[if_neg (by omega)])
    have:=BW hi;repeat rw[if_neg (by omega)]
    exact hi
  · omega
  omega
theorem AW.Rr{cX:Ctx}{P:Program}{c:Code}{s:St}{K:Exit→St→Prop}(h:AW cX P c s (aO K fun _=>False)):AW cX P (.loop c) s K:=
  AW.AF (α:=Unit) (fun _=>s.t) (fun _=>s.H) (fun _ m=>m=s.nx) (fun _=>0) () rfl (by
    have:∀t:List AV,AO t t:=by
      intro t;induction t with
      |nil=>exact trivial
      |cons x xs ih=>exact⟨.inr (.inl rfl),ih⟩
    exact this _) (fun _ _ h=>h) (fun _ m hm=>by
      subst hm;exact h.mono (fun e s' h=>by cases e<;>simp only[aO]at h ⊢<;>first|exact h.elim|exact h))
def Bh(n k:Nat):List Int:=vec n (fun j=>if j=k then 1 else 0)
theorem oQ{n k:Nat}(h:k<n):B0 (DM n (fun _=>0)) k [.i .i64 1]=DM n (fun j=>if j=k then 1 else 0):=by
  rw[TA h];rfl
theorem OJ(n k:Nat)(hn:n≤1048576)(hk:k<n):W9 Tryz.prog 141 [.i .i64 n,.i .i64 k] (ints (Bh n k)):=by
 refine mT.Yr (fun nx=>?_)
 refine AC.C2 A9 Tryz.func141 rfl (by kernel_rfl) Tryz.ntmps141 Tryz.results141 (fun C7 cX=>?_)
 refine sQ fun N hN=>?_;simp-dsimp-implicitDefEqProofs(disch:=omega)only[go_sem,];apply hN;refine sQ fun N hN=>?_;simp-dsimp-implicitDefEqProofs(disch:=omega)only[go_sem,];apply hN;refine sQ fun N hN=>?_;simp-dsimp-implicitDefEqProofs(disch:=omega)only[go_sem,];apply hN;refine sQ fun N hN=>?_;simp-dsimp-implicitDefEqProofs(disch:=omega)only[go_sem,];apply hN;apply AW.ret;simp-dsimp-implicitDefEqProofs(disch:=omega)only[go_sem];refine⟨_,?_,_,rfl,?_,?_,rfl⟩
 ·rw[CA,oQ hk];refine eF (fun i c h1 h2=>?_) (fun d hd=>by rw[A1];exact hd);cases h2
 ·omega
 omega
theorem S6(a:List Int)(QR:a.length≤1099511627776):BG Tryz.prog 62 [ints a] (.b (tf (iF a))):=by
 refine BG.AM A9 Tryz.func62 rfl (by kernel_rfl) Tryz.ntmps62 Tryz.results62 (.b _) (fun nx cX=>?_)
 refine sQ fun N hN=>?_;simp-dsimp-implicitDefEqProofs(disch:=omega)only[go_sem,ints,A6];apply hN;refine AW.seq fun N1 BC=>?_;refine sQ fun N hN=>?_;simp-dsimp-implicitDefEqProofs(disch:=omega)only[go_sem,ints,A6];apply hN;apply AW.block;refine AW.AF (α:=Nat) (fun x=>sl 15 [(0,ints a),(3,.i .i64 x)]) (fun _=>BN) (fun x m=>x≤a.length∧∀j,j<x→a.getD j 0=0) (fun x=>a.length-x) (0) ?_ ?_ (fun _ _ h=>h) ?_
 ·exact⟨by omega,by intro j hj;omega⟩
 ·simp(disch:=omega) [AO,AQ,sl,AJ,ints,rows,A4,ints,A6,AJ]<;>omega
 skip
 rintro k m ⟨hk,hI⟩
 simp-dsimp-implicitDefEqProofs(disch:=omega)only[go_sem];refine AW.seq fun N2 BM=>?_;refine sQ fun N hN=>?_;simp-dsimp-implicitDefEqProofs(disch:=omega)only[go_sem,ints,A6];apply hN;refine AW.cond rfl ?_ ?_<;>intro h1
 ·try simp only[cn]at h1
  apply AW.skip;apply BM;refine AW.seq fun N3 BQ=>?_;apply AW.block;refine sQ fun N hN=>?_;simp-dsimp-implicitDefEqProofs(disch:=omega)only[go_sem,ints,A6];apply hN;refine AW.cond rfl ?_ ?_<;>intro h2
  ·try simp only[cn]at h2
   refine sQ fun N hN=>?_;simp-dsimp-implicitDefEqProofs(disch:=omega)only[go_sem,ints,A6];apply hN;apply AW.ret;simp-dsimp-implicitDefEqProofs(disch:=omega)only[go_sem];exact bt (CE (fun h=>h2 (h k (by omega)))).symm
  try simp only[cn]at h2
  apply AW.skip;apply BQ;apply rQ;simp-dsimp-implicitDefEqProofs(disch:=omega)only[go_sem,ints,A6];refine⟨k+1,?_,fun _ _ h=>h,?_,?_⟩
  ·simp(disch:=omega) [AO,AQ,sl,AJ,ints,rows,A4,ints,A6,AJ]<;>omega
  ·refine⟨by omega,fun j hj=>?_⟩;by_cases e:j=k
   ·subst e;exact h2
   exact hI j (by omega)
  first|omega|(simp only;omega)
 try simp only[cn]at h1
 apply AW.exit;apply BC;refine sQ fun N hN=>?_;simp-dsimp-implicitDefEqProofs(disch:=omega)only[go_sem,ints,A6];apply hN;apply AW.ret;simp-dsimp-implicitDefEqProofs(disch:=omega)only[go_sem];exact bt (EN (fun j hj=>hI j (by omega))).symm
theorem KW(a b:List Int)(ha:a.length≤1099511627776)(hb:b.length≤1099511627776):BG Tryz.prog 96 [ints a,ints b] (.b (tf (a=b))):=by
 refine BG.AM A9 Tryz.func96 rfl (by kernel_rfl) Tryz.ntmps96 Tryz.results96 (.b _) (fun nx cX=>?_)
 refine sQ fun N hN=>?_;simp-dsimp-implicitDefEqProofs(disch:=omega)only[go_sem,ints,A6];apply hN;refine AW.seq fun N1 BC=>?_;refine sQ fun N hN=>?_;simp-dsimp-implicitDefEqProofs(disch:=omega)only[go_sem,ints,A6];apply hN;refine AW.cond rfl ?_ ?_<;>intro h1
 ·try simp only[cn]at h1
  refine sQ fun N hN=>?_;simp-dsimp-implicitDefEqProofs(disch:=omega)only[go_sem,ints,A6];apply hN;apply AW.ret;simp-dsimp-implicitDefEqProofs(disch:=omega)only[go_sem];exact bt (CE (fun e=>h1 (by rw[e]))).symm
 try simp only[cn]at h1
 have hl:a.length=b.length:=by omega
 apply AW.skip;apply BC;refine AW.seq fun N2 BM=>?_;refine sQ fun N hN=>?_;simp-dsimp-implicitDefEqProofs(disch:=omega)only[go_sem,ints,A6];apply hN;apply AW.block;refine AW.AF (α:=Nat) (fun x=>sl 26 [(0,ints a),(1,ints b),(5,.i .i64 x)]) (fun _=>BN) (fun x m=>x≤a.length∧a.take x=b.take x) (fun x=>a.length-x) (0) ?_ ?_ (fun _ _ h=>h) ?_
 ·exact⟨by omega,rfl⟩
 ·simp(disch:=omega) [AO,AQ,sl,AJ,ints,rows,A4,ints,A6,AJ]<;>omega
 skip
 rintro k m ⟨hk,he⟩
 simp-dsimp-implicitDefEqProofs(disch:=omega)only[go_sem];refine AW.seq fun N3 BQ=>?_;refine sQ fun N hN=>?_;simp-dsimp-implicitDefEqProofs(disch:=omega)only[go_sem,ints,A6];apply hN;refine AW.cond rfl ?_ ?_<;>intro h2
 ·try simp only[cn]at h2
  apply AW.skip;apply BQ;refine AW.seq fun N4 CG=>?_;apply AW.block;refine AW.seq fun N hN=>?_;refine AW.BI A9 (by kernel_rfl) 9 (by kernel_rfl) ?_
  simp-dsimp-implicitDefEqProofs(disch:=omega)only[B3,B4,BH,List.take_succ_cons,List.take_zero,List.drop_succ_cons,List.drop_zero,List.take_nil,List.drop_nil,go_sem,undef,ints,A6,AJ];apply hN;refine AW.cond rfl ?_ ?_<;>intro h3
  ·try simp only[cn]at h3
   refine sQ fun N hN=>?_;simp-dsimp-implicitDefEqProofs(disch:=omega)only[go_sem,ints,A6];apply hN;apply AW.ret;simp-dsimp-implicitDefEqProofs(disch:=omega)only[go_sem];exact bt (CE (fun e=>h3 (by rw[e]))).symm
  try simp only[cn]at h3
  apply AW.skip;apply CG;apply rQ;simp-dsimp-implicitDefEqProofs(disch:=omega)only[go_sem,ints,A6];refine⟨k+1,?_,fun _ _ h=>h,?_,?_⟩
  ·simp(disch:=omega) [AO,AQ,sl,AJ,ints,rows,A4,ints,A6,AJ]<;>omega
  ·exact⟨by omega,UC 0 hl (by omega) he h3⟩
  first|omega|(simp only;omega)
 try simp only[cn]at h2
 apply AW.exit;apply BM;refine sQ fun N hN=>?_;simp-dsimp-implicitDefEqProofs(disch:=omega)only[go_sem,ints,A6];apply hN;apply AW.ret;simp-dsimp-implicitDefEqProofs(disch:=omega)only[go_sem];rw[show k=a.length by omega,List.take_length,hl,List.take_length]at he
 exact bt (EN he).symm
theorem ED(a b:List Int)(ha:a.length≤1099511627776)(hb:b.length≤1099511627776):BG Tryz.prog 100 [ints a,ints b] (.b (tf (a=b))):=by
 refine BG.AM A9 Tryz.func100 rfl (by kernel_rfl) Tryz.ntmps100 Tryz.results100 (.b _) (fun nx cX=>?_)
 refine sQ fun N hN=>?_;simp-dsimp-implicitDefEqProofs(disch:=omega)only[go_sem,ints,A6];apply hN;refine AW.seq fun N1 BC=>?_;refine sQ fun N hN=>?_;simp-dsimp-implicitDefEqProofs(disch:=omega)only[go_sem,ints,A6];apply hN;refine AW.cond rfl ?_ ?_<;>intro h1
 ·try simp only[cn]at h1
  refine sQ fun N hN=>?_;simp-dsimp-implicitDefEqProofs(disch:=omega)only[go_sem,ints,A6];apply hN;apply AW.ret;simp-dsimp-implicitDefEqProofs(disch:=omega)only[go_sem];exact bt (CE (fun e=>h1 (by rw[e]))).symm
 try simp only[cn]at h1
 have hl:a.length=b.length:=by omega
 apply AW.skip;apply BC;refine AW.seq fun N2 BM=>?_;refine sQ fun N hN=>?_;simp-dsimp-implicitDefEqProofs(disch:=omega)only[go_sem,ints,A6];apply hN;apply AW.block;refine AW.AF (α:=Nat) (fun x=>sl 26 [(0,ints a),(1,ints b),(12,.i .i64 a.length),(13,.i .i64 x)]) (fun _=>BN) (fun x m=>x≤a.length∧a.take x=b.take x) (fun x=>a.length-x) (0) ?_ ?_ (fun _ _ h=>h) ?_
 ·exact⟨by omega,rfl⟩
 ·simp(disch:=omega) [AO,AQ,sl,AJ,ints,rows,A4,ints,A6,AJ]<;>omega
 skip
 rintro k m ⟨hk,he⟩
 simp-dsimp-implicitDefEqProofs(disch:=omega)only[go_sem];refine sQ fun N hN=>?_;simp-dsimp-implicitDefEqProofs(disch:=omega)only[go_sem,ints,A6];apply hN;refine AW.seq fun N3 BQ=>?_;refine AW.cond rfl ?_ ?_<;>intro h2
 ·try simp only[cn]at h2
  apply AW.skip;apply BQ;refine AW.seq fun N4 CG=>?_;apply AW.block;refine sQ fun N hN=>?_;simp-dsimp-implicitDefEqProofs(disch:=omega)only[go_sem,ints,A6];apply hN;refine AW.seq fun N hN=>?_;refine AW.BI A9 (by kernel_rfl) 9 (by kernel_rfl) ?_
  simp-dsimp-implicitDefEqProofs(disch:=omega)only[B3,B4,BH,List.take_succ_cons,List.take_zero,List.drop_succ_cons,List.drop_zero,List.take_nil,List.drop_nil,go_sem,undef,ints,A6,AJ];apply hN;refine AW.cond rfl ?_ ?_<;>intro h3
  ·try simp only[cn]at h3
   refine sQ fun N hN=>?_;simp-dsimp-implicitDefEqProofs(disch:=omega)only[go_sem,ints,A6];apply hN;apply AW.ret;simp-dsimp-implicitDefEqProofs(disch:=omega)only[go_sem];exact bt (CE (fun e=>h3 (by rw[e]))).symm
  try simp only[cn]at h3
  apply AW.skip;apply CG;apply rQ;simp-dsimp-implicitDefEqProofs(disch:=omega)only[go_sem,ints,A6];refine⟨k+1,?_,fun _ _ h=>h,?_,?_⟩
  ·simp(disch:=omega) [AO,AQ,sl,AJ,ints,rows,A4,ints,A6,AJ]<;>omega
  ·exact⟨by omega,UC 0 hl (by omega) he h3⟩
  first|omega|(simp only;omega)
 try simp only[cn]at h2
 apply AW.exit;apply BM;refine sQ fun N hN=>?_;simp-dsimp-implicitDefEqProofs(disch:=omega)only[go_sem,ints,A6];apply hN;apply AW.ret;simp-dsimp-implicitDefEqProofs(disch:=omega)only[go_sem];rw[show k=a.length by omega,List.take_length,hl,List.take_length]at he
 exact bt (EN he).symm
def i4(t:Int×Int×Int×Int):AV:= .t [.i .i64 t.1,.i .i64 t.2.1,.i .i64 t.2.2.1,.i .i64 t.2.2.2]
theorem NR.ts{xs:List AV}(h:∀x∈xs,NR x):NR (.t xs):= .t _ (fun k x hk=>h x (List.mem_of_getElem? hk))
theorem Gu(a:List Int):one (ints a)=true:=rfl
theorem Gv(a:List (List Int)):one (rows a)=true:=rfl
theorem wN(a:List (List (List Int))):one (A4 a)=true:=rfl
theorem Gw(a:List Int):TZ (ints a)=true:=rfl
theorem Gx(a:List (List Int)):TZ (rows a)=true:=rfl
theorem Gy(a:List Int):BZ (ints a)=[ints a]:=rfl
theorem Gz(a:List (List Int)):BZ (rows a)=[rows a]:=rfl
attribute [go_sem] Gu Gv wN Gw Gx Gy Gz Bool.true_and ne_eq not_true_eq_false not_false_eq_true or_false false_or or_self
def Rd(r X:AV):Prop:=∀(L:LM) (w:World) (M:Nat→Prop) (u:Value),R L w M r u→R L w M X u
theorem Rd.refl(r:AV):Rd r r:=fun _ _ _ _ h=>h
theorem Rd.nl:Rd .nl (.v 0 []):=fun _ _ _ _ h=>h.Bg
theorem Rd.t2{a b x y:AV}(h1:Rd a x)(h2:Rd b y):Rd (.t [a,b]) (.t [x,y]):=by
  intro L w M u h;cases h with
  | t _ us hs hr=>
    refine .t _ us hs ?_;intro k z hk;match k,hk with
    |0,hk=>cases hk;exact h1 _ _ _ _ (hr 0 _ rfl)
    |1,hk=>cases hk;exact h2 _ _ _ _ (hr 1 _ rfl)
theorem BG.Ha{P:Program}{Γ:BV}(hG:GJ P Γ){f:FuncId}{fn:Func}{c:Code}{n:Nat}{rs:Array ResultVar}(hf:P.funcs[f]? =some fn)(hb:fn.body=some c)(hn:(fn.name== "runtime.NumGoroutine")=false)(eC:fn.ntmps=n)(PH:fn.results=rs){xs:List AV}{r:AV}(hr:NR r)
    (h:∀nx (cX:Ctx),AW cX P c ⟨xs++List.replicate (n-xs.length) .j,BN,nx⟩ (WM Γ rs.toList fun _ _ r'=>Rd r' r)):BG P f xs r:=by
  refine⟨⟨fn,hf,by rw[hb];rfl,hn⟩,?_⟩;rintro L M w us hM ⟨nx,C7⟩ ha;refine((AC.AM hG hf hb hn eC PH (h nx)).2 L M w us (LX hM) C7 (by rw[LY];exact ha)).mono ?_;rintro e w' ⟨u,r',L',nx',H',g1,g0,g2,g3,g4,g5,g6,g7⟩;refine⟨u,g1,⟨fun _ _ h=>h,g6.os,g6.tape,g6.output,g6.size,g6.AD,fun b _ hl=>hl⟩,?_⟩;exact R.mono (L:=L) (M:=MM L' H' M) (w:=w') (fun _ _ h=>h) (fun _ _ _=>rfl) (fun b _ hb=> .inl hb) ((g0 _ _ _ _ g7).nr hr)
theorem TB(a:List Int):NR (ints a):=by
  unfold Go.Proofs.YtghmeeifjeafmaaGreat.ints;exact .v _ _ (by intro k x hk;obtain⟨y,_,rfl⟩:=List.mem_map.1 (List.mem_of_getElem? hk);exact .i _ _)
theorem Own.pair{a b:Nat}{H:HP}{r X:AV}{ids:List Nat}{k:IntKind}{e:Int}(h:Own a b H r X ids):∃ids,Own a b H (.t [r,.i k e]) (.t [X,.i k e]) ids:=by
  refine⟨ids++([]++[]),.t _ _ _ (.cons _ _ _ _ _ _ h.1 (.cons _ _ _ _ _ _ (.leaf _ (.i _ _) (.i _ _)) .nil)),?_,?_⟩
  · simpa using h.2.1
  simpa using h.2.2
theorem Ow.oR{H:HP}{r:AV}{a:List Int}{ids:List Nat}(h:Ow H r (Go.Proofs.YtghmeeifjeafmaaGreat.ints a) ids):(a=[]∧(r= .nl∨r= .v 0 []))∨∃id,r= .h id 0 a.length∧id∈ids∧H id=some (DM a.length (fun j=>a.getD j 0)):=by
  unfold Go.Proofs.YtghmeeifjeafmaaGreat.ints at h;generalize hX:AV.v a.length (a.map (AV.i .i64))=X at h
  cases h with
  | leaf _ hf hn=>
    subst hX;cases a with
    |nil=>exact .inl ⟨rfl,.inr rfl⟩
    |cons x xs=>cases hf
  | nl=>
    injection hX with h1 h2
    cases a with
    |nil=>exact .inl ⟨rfl,.inl rfl⟩
    |cons x xs=>simp at h1
  | h id cs ts CH h1 h2=>
    injection hX with e1 e2
    subst e2;have h3:cs=a.map (AV.i .i64):=by
      apply List.ext_getElem?;intro k;by_cases hk:k<cs.length
      · obtain⟨y,is,g1,g2,_⟩:=h2.get k cs[k] (List.getElem?_eq_getElem hk);rw[List.getElem?_eq_getElem hk,g1];simp only[List.getElem?_map,Option.map_eq_some_iff]at g1;obtain⟨z,_,rfl⟩:=g1;generalize cs[k]=x at g2
        cases g2;rfl
      rw[List.getElem?_eq_none (Nat.le_of_not_lt hk),List.getElem?_eq_none (by rw[h2.len];omega)]
    refine .inr ⟨id,by rw[e1],by simp,?_⟩;rw[h1,h3,KD]
  |q id cs ts CH h1 h2=>cases hX
  |g cs ts CH h2=>cases hX
  |t cs ts CH h2=>cases hX
theorem Hb{H:HP}{r:AV}{n:Nat}{ts:List AV}{ids:List Nat}(h:Ow H r (.v n ts) ids):one r=true:=h.slice.2.1
end Go.Proofs.YtghmeeifjeafmaaGreat
