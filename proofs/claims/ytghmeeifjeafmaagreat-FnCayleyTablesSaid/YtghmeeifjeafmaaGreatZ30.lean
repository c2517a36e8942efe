import Derived.Test.YtghmeeifjeafmaaGreatProg
import Derived.Lib.ItoaNum
import Derived.Lib.Join
import Derived.Lib.ParseIntB
import Derived.Lib.Bytealg
import Derived.Lib.ConvBytes
import Derived.RangeFuncIn
import Derived.Test.YtghmeeifjeafmaaGreatZ07
import Derived.Test.YtghmeeifjeafmaaGreatZ08
import Derived.Test.YtghmeeifjeafmaaGreatZ21
import Derived.Test.YtghmeeifjeafmaaGreatZ22
import Derived.Test.YtghmeeifjeafmaaGreatZ28
import Derived.Test.YtghmeeifjeafmaaGreatZ29
set_option linter.unusedVariables false
set_option linter.unusedSimpArgs false
namespace Go.Proofs.YtghmeeifjeafmaaGreat
theorem Fz.tr{n:Nat}{H H':HP}{a t:AV}(h:Fz H (GH n H) a t)(hk:∀i,n≤i→H' i=H i):Fz H' (GH n H') a t:=by
  have key:∀id (cs:List AV),H id=some cs→GH n H id=none→H' id=some cs∧GH n H' id=none:=fun id cs h1 h2=>by
    have DA:n≤id:=by
      apply Classical.byContradiction;intro hn;rw[BE (by omega),h1]at h2;cases h2
    exact⟨(hk id DA).trans h1,KR DA⟩
  induction h with
  |j a=>exact .j a
  |refl a=>exact .refl a
  |nl=>exact .nl
  |h id o m cs ts h1 h0 h2 h3 h4 ih=>exact .h id o m cs ts (key id cs h1 h0).1 (key id cs h1 h0).2 h2 h3 ih
  |hs s id o m cs ts h1 h0 h2 h3 h4 ih=>exact .hs s id o m cs ts (key id cs h1 h0).1 (key id cs h1 h0).2 h2 h3 ih
  |q id o cs ts h1 h0 h3 h4 ih=>exact .q id o cs ts (key id cs h1 h0).1 (key id cs h1 h0).2 h3 ih
  |g cs ts h3 h4 ih=>exact .g cs ts h3 ih
  |t cs ts h3 h4 ih=>exact .t cs ts h3 ih
  |v m cs ts h3 h4 ih=>exact .v m cs ts h3 ih
  |f m cs ts h3 h4 ih=>exact .f m cs ts h3 ih
def zK(nx:Nat)(H:HP)(Q:AV→Prop):Nat→HP→AV→Prop:=fun _ H' r=>Q r∧∀i,i<nx→H' i=H i
theorem AC.zz{P:Program}{f:FuncId}{xs:List AV}{Q:AV→Prop}{nx:Nat}(h:AC P f nx BN xs (fun nx' H' r=>∃r2,Fz H' (GH nx H') r r2∧Q r2))(H:HP):AC P f nx H xs (zK nx H Q):=
  (AC.frame (H:=H) h).Up fun nx' H' r ⟨H0,⟨r2,g1,g2⟩,CK,F4⟩=>⟨GH nx H',r2,L7.GH,g1.tr F4,g2,fun i hi=>(BE hi).trans (CK i hi)⟩
theorem Fz.t2{H H':HP}{a b z:AV}(h:Fz H H' a b):Fz H H' (.t [a,z]) (.t [b,z]):= .t _ _ rfl fun k x y hx hy=>by
  match k,hx,hy with
  |0,hx,hy=>cases hx;cases hy;exact h
  |1,hx,hy=>cases hx;cases hy;exact .refl _
theorem LC.Ur{n:Nat}{H:HP}{a b:Nat}{L:AV}{xs:List Int}(h:LC H a b L (xs.map (.i .i64)))(hn:n≤a):Fz H (GH n H) L (ints xs):=by
  have:=h.fz hn (ts:=xs.map (.i .i64)) rfl fun k x y g1 g2=>by rw[g1]at g2;cases g2;exact .refl _
  simpa[ints]using this
theorem LC.Us{n:Nat}{H:HP}{a b:Nat}{L:AV}{xs:List (List Int)}(h:LC H a b L (xs.map ints))(hn:n≤a):Fz H (GH n H) L (rows xs):=by
  rw[GG];exact h.fz hn rfl fun k x y g1 g2=>by rw[g1]at g2;cases g2;exact .refl _
theorem HZ{α:Type}{p:α→Prop}{X:List α}{x:α}(h:∀z∈X,p z)(hx:p x):∀z∈X++[x],p z:=fun z hz=>by
  rcases List.mem_append.1 hz with h1|h1
  · exact h z h1
  rw[List.mem_singleton.1 h1];exact hx
theorem TU{α:Type}{p:α→Prop}{X:List α}{k:Nat}{x:α}(h:∀z∈X,p z)(hx:p x):∀z∈X.set k x,p z:=fun z hz=>by
  rcases List.mem_or_eq_of_mem_set hz with h1|h1
  · exact h z h1
  rw[h1];exact hx
theorem Fz.Ut{n a id:Nat}{H:HP}{f:Nat→Int}(h:H id=some (DM n f))(ha:a≤id):Fz H (GH a H) (.h id 0 n) (ints (vec n f)):=by
  have:=LC.Ur (H:=H) (L:= .h id 0 n) (n:=a) (a:=id) (b:=id+1) (xs:=vec n f) (.inr ⟨id,by rw[List.length_map,C1],by rw[HT];exact h,Nat.le_refl _,Nat.lt_succ_self _⟩) ha;exact this
def Uu(n:Int)(r:AV):Prop:=∃fs b,r= .t [ints fs,.b b]∧(2:Int)^fs.length≤n∧∀x∈fs,2≤x∧x≤7
theorem sA{k:Nat}{a q d n:Int}(h:(2:Int)^k*a≤n)(hd:2≤d)(hq:0≤q)(e:d*q≤a):(2:Int)^(k+1)*q≤n:=by
  have h1:(0:Int)≤2^k:=Int.pow_nonneg (by omega);have h2:2*q≤d*q:=Int.mul_le_mul_of_nonneg_right hd hq;have h3:(2:Int)^k*(2*q)≤2^k*a:=Int.mul_le_mul_of_nonneg_left (by omega) h1;rw[Int.pow_succ,Int.mul_assoc];omega
theorem zB{a d:Int}(ha:1≤a)(hd:2≤d)(hm:a.tmod d=0):1≤a.tdiv d∧a.tdiv d<a∧d*a.tdiv d≤a:=by
  have h:=Int.tmod_add_tdiv_mul a d;rw[hm]at h;have h2:a.tdiv d*d=a:=by omega
  have h1:1≤a.tdiv d:=by
    apply Classical.byContradiction;intro hn;have:a.tdiv d*d≤0:=Int.mul_nonpos_of_nonpos_of_nonneg (by omega) (by omega);omega
  have h3:a.tdiv d*2≤a.tdiv d*d:=Int.mul_le_mul_of_nonneg_left hd (by omega);refine⟨h1,by omega,by rw[Int.mul_comm];omega⟩
theorem pow_one{k:Nat}{a n:Int}(h:(2:Int)^k*a≤n)(ha:1≤a):(2:Int)^k≤n:=by
  have h1:(0:Int)≤2^k:=Int.pow_nonneg (by omega);have h2:(2:Int)^k*1≤2^k*a:=Int.mul_le_mul_of_nonneg_left ha h1;omega
theorem QA{k:Nat}{n:Int}(h:(2:Int)^k≤n)(hn:n≤729):k≤9∧(n≤64→k≤6):=by
  have key:∀j,(2:Int)^j*(2:Int)^(k-j)=2^k∨k<j:=fun j=>by
    by_cases hj:j≤k
    · left;rw[←Int.pow_add];congr 1;omega
    right;omega
  have pos:∀j,(1:Int)≤2^j:=fun j=>by
    induction j with
    |zero=>decide
    |succ j ih=>rw[Int.pow_succ];omega
  refine⟨?_,fun h64=>?_⟩
  · rcases key 10 with e|e
    · have:=pos (k-10);rw[show(2:Int)^10=1024 from rfl]at e;omega
    omega
  rcases key 7 with e|e
  · have:=pos (k-7);rw[show(2:Int)^7=128 from rfl]at e;omega
  omega
set_option maxHeartbeats 2000000 in theorem QB (n:Int) (h0:1≤n) (h1:n≤729):∀nx,AC Tryz.prog 154 nx BN [.i .i64 n] (fun nx' H' r=>∃r2,Fz H' (GH nx H') r r2∧Uu n r2):=by
 intro nx
 refine AC.AM A9 Tryz.func154 rfl (by kernel_rfl) Tryz.ntmps154 Tryz.results154 (fun cX=>?_)
 refine sQ fun N hN=>?_;simp-dsimp-implicitDefEqProofs(disch:=omega)only[go_sem];apply hN;refine sQ fun N hN=>?_;simp-dsimp-implicitDefEqProofs(disch:=omega)only[go_sem];apply hN;refine AW.seq fun N1 BC=>?_;refine sQ fun N hN=>?_;simp-dsimp-implicitDefEqProofs(disch:=omega)only[go_sem];apply hN;apply AW.block;refine AW.AF (α:=Nat×HP×AV×List Int×Int) (fun x=>sl 29 [(0,.i .i64 x.2.2.2.2),(4,x.2.2.1),(5,.i .i64 ((x.1:Int)+2))]) (fun x=>x.2.1) (fun x m=>(x.1≤6∧nx+3≤m)∧LC x.2.1 nx m x.2.2.1 (x.2.2.2.1.map (.i .i64))∧(1≤x.2.2.2.2∧x.2.2.2.2≤729∧(2:Int)^x.2.2.2.1.length*x.2.2.2.2≤n)∧x.2.2.2.1.length≤1000∧∀z∈x.2.2.2.1,2≤z∧z≤7) (fun x=>6-x.1) ((0,AU BN (nx+2) (some []),.h (nx+2) 0 0,[],n)) ?_ ?_ (fun _ _ h=>h) ?_
 ·exact⟨⟨by simp,by first|omega|(dsimp only;omega)⟩,LC.mk (A1 _ _ _) rfl (by omega) (by first|omega|(dsimp only;omega)),by simp;omega,by simp,by simp⟩
 ·simp(disch:=omega) [AO,AQ,sl]
 skip
 rintro⟨k,G,L,fs,a⟩ m ⟨⟨hk,hm⟩,hL,⟨ha,Ng,hp⟩,mD,S3⟩
 simp-dsimp-implicitDefEqProofs(disch:=omega)only[go_sem];dsimp only at hk hm hL ha Ng hp mD S3 ⊢
 refine AW.seq fun N2 BM=>?_;refine sQ fun N hN=>?_;simp-dsimp-implicitDefEqProofs(disch:=omega)only[go_sem];apply hN;refine AW.cond rfl ?_ ?_<;>intro h1
 ·try simp only[cn]at h1
  apply AW.skip;apply BM;refine AW.seq fun N3 BQ=>?_;apply AW.block;apply AW.block;refine AW.AF (α:=HP×AV×List Int×Int) (fun x=>sl 29 [(0,.i .i64 x.2.2.2),(4,x.2.1),(5,.i .i64 ((k:Int)+2))]) (fun x=>x.1) (fun x m=>nx+3≤m∧LC x.1 nx m x.2.1 (x.2.2.1.map (.i .i64))∧(1≤x.2.2.2∧x.2.2.2≤729∧(2:Int)^x.2.2.1.length*x.2.2.2≤n)∧x.2.2.1.length≤1000∧∀z∈x.2.2.1,2≤z∧z≤7) (fun x=>x.2.2.2.toNat) ((G,L,fs,a)) ?_ ?_ (fun _ _ h=>h) ?_
  ·exact⟨by first|omega|(dsimp only;omega),hL.wide (by omega) (by first|omega|(dsimp only;omega)),⟨ha,Ng,hp⟩,mD,S3⟩
  ·simp(disch:=omega) [AO,AQ,sl]
  skip
  rintro⟨G,L,fs,a⟩ m ⟨hm,hL,⟨ha,Ng,hp⟩,mD,S3⟩;simp-dsimp-implicitDefEqProofs(disch:=omega)only[go_sem];dsimp only at hm hL ha Ng hp mD S3 ⊢;have NU:=hL.one;have KQ:=hL.len;refine AW.seq fun N4 CG=>?_;refine sQ fun N hN=>?_;simp-dsimp-implicitDefEqProofs(disch:=omega)only[go_sem];refine AC.pure (.of (GC ((k:Int)+2))) ?_
  try simp-dsimp-implicitDefEqProofs(disch:=omega)only[go_sem]
  refine C9.mk' (fun h2=>?_) (fun h2=>?_)
  ·try simp only[cn]at h2
   try simp-dsimp-implicitDefEqProofs(disch:=omega)only[go_sem]
   apply hN;refine AW.cond rfl ?_ ?_<;>intro h3
   ·(try simp only[cn]at h3);have hd:=zB (d:=(k:Int)+2) ha (by omega) h3;apply AW.skip;apply CG;apply AW.block;refine sQ fun N hN=>?_;simp-dsimp-implicitDefEqProofs(disch:=(first|omega|((repeat refine LC.AU (by omega) ?_);assumption))) only[go_sem,NU,KQ,CC (a:=nx) (b:=m) (L:=L) (cs:=fs.map (.i .i64))]
    apply hN;refine AW.BD (fun G3 D3=>?_);dsimp only at D3;apply rQ;simp-dsimp-implicitDefEqProofs(disch:=omega)only[go_sem];refine⟨(G3,.h (m+8+3) 0 (fs.length+1),fs++[(k:Int)+2],a.tdiv ((k:Int)+2)),?_,fun _ _ h=>h,?_,?_⟩
    ·simp(disch:=omega) [AO,AQ,sl,AJ]
    ·have IZ:LC G3 nx (m+8+5+4) (.h (m+8+3) 0 (fs.length+1)) ((fs++[(k:Int)+2]).map (.i .i64)):=LC.mk (by rw[←D3,List.map_append];simp(disch:=omega)only[A0,A1];rfl) (by simp) (by omega) (by omega);have Tb:=sA hp (show 2≤(k:Int)+2 by omega) (by omega) hd.2.2;have zD:∀z∈fs++[(k:Int)+2],2≤z∧z≤7:=HZ S3 (by omega);have ME:(fs++[(k:Int)+2]).length≤1000:=by rw[List.length_append,List.length_singleton];have:=(QA (pow_one hp ha) (by omega)).1;omega
     have OM:(2:Int)^(fs++[(k:Int)+2]).length*a.tdiv ((k:Int)+2)≤n:=by rw[List.length_append];exact Tb
     first|exact⟨by first|omega|(dsimp only;omega),IZ,⟨by first|omega|(dsimp only;omega),by first|omega|(dsimp only;omega),OM⟩,ME,zD⟩|exact⟨IZ,⟨by first|omega|(dsimp only;omega),by first|omega|(dsimp only;omega),OM⟩,ME,zD⟩
    first|omega|(simp only;omega)
   try simp only[cn]at h3
   apply AW.exit;apply BQ;apply rQ;simp-dsimp-implicitDefEqProofs(disch:=omega)only[go_sem];refine⟨(k+1,G,L,fs,a),?_,fun _ _ h=>h,?_,?_⟩
   ·simp(disch:=omega) [AO,AQ,sl,AJ]<;>omega
   ·exact⟨⟨by first|omega|(dsimp only;omega),by first|omega|(dsimp only;omega)⟩,hL.wide (by omega) (by first|omega|(dsimp only;omega)),⟨ha,Ng,hp⟩,mD,S3⟩
   first|omega|(simp only;omega)
  try simp only[cn]at h2
  try simp-dsimp-implicitDefEqProofs(disch:=omega)only[go_sem]
  apply hN;refine AW.C8 rfl ?_;apply AW.exit;apply BQ;apply rQ;simp-dsimp-implicitDefEqProofs(disch:=omega)only[go_sem];refine⟨(k+1,G,L,fs,a),?_,fun _ _ h=>h,?_,?_⟩
  ·simp(disch:=omega) [AO,AQ,sl,AJ]<;>omega
  ·exact⟨⟨by first|omega|(dsimp only;omega),by first|omega|(dsimp only;omega)⟩,hL.wide (by omega) (by first|omega|(dsimp only;omega)),⟨ha,Ng,hp⟩,mD,S3⟩
  first|omega|(simp only;omega)
 try simp only[cn]at h1
 apply AW.exit;apply BC;refine sQ fun N hN=>?_;simp-dsimp-implicitDefEqProofs(disch:=omega)only[go_sem];apply hN;apply AW.ret;simp-dsimp-implicitDefEqProofs(disch:=omega)only[go_sem];exact⟨_,Fz.t2 (hL.Ur (Nat.le_refl _)),fs,_,rfl,pow_one hp ha,S3⟩
theorem EG(n:Int)(h0:1≤n)(h1:n≤729)(nx:Nat)(H:HP):AC Tryz.prog 154 nx H [.i .i64 n] (zK nx H (Uu n)):=AC.zz (QB n h0 h1 nx) H
def dJ(b:Nat)(v:List Int)(e:Nat):List Int:=List.replicate b 0++v++List.replicate e 0
theorem NC(b:Nat)(v:List Int)(e:Nat):(dJ b v e).length=b+v.length+e:=by simp[dJ];omega
theorem sB(b:Nat)(v:List Int)(e:Nat):List.take (b+v.length) (List.take b (List.replicate b (AV.i .i64 0))++List.map (AV.i .i64) v)++List.replicate e (AV.i .i64 0)=(dJ b v e).map (.i .i64):=by
  rw[List.take_of_length_le (by simp),List.take_of_length_le (by simp)];simp[dJ]
theorem SL(b:Nat)(v:List Int)(e:Nat)(hb:b≤1000)(hv:v.length≤1000)(he:e≤1000):W9 Tryz.prog 148 [.i .i64 b,ints v,.i .i64 e] (ints (dJ b v e)):=by
 intro nx
 refine AC.AM A9 Tryz.func148 rfl (by kernel_rfl) Tryz.ntmps148 Tryz.results148 (fun cX=>?_)
 refine sQ fun N hN=>?_;simp-dsimp-implicitDefEqProofs(disch:=omega)only[go_sem,ints];apply hN;refine sQ fun N hN=>?_;simp-dsimp-implicitDefEqProofs(disch:=omega)only[go_sem,ints];apply hN;refine sQ fun N hN=>?_;simp-dsimp-implicitDefEqProofs(disch:=omega)only[go_sem,ints];apply hN;apply AW.ret;simp-dsimp-implicitDefEqProofs(disch:=omega)only[go_sem];rw[sB]
 exact⟨_,Own.ints (A1 _ _ _) (by rw[NC]) (by omega) (by omega)⟩
def xq(os:List Int)(k:Nat)(x:Int):Nat→Int
  |0=>x
  |d+1=>(xq os k x d).tdiv (os.getD (k+d) 0)
def Uv(os:List Int)(k:Nat)(x:Int)(i:Nat):Int:=if i<k then 0 else (xq os k x (i-k)).tmod (os.getD i 0)
def Cg(os:List Int)(k:Nat)(x:Int):List Int:=vec os.length (Uv os k x)
theorem ZE(os:List Int)(k:Nat)(x:Int):(Cg os k x).length=os.length:=by simp[Cg,vec]
theorem Ch{os:List Int}{k:Nat}{x:Int}(ho:∀i,i<os.length→2≤os.getD i 0∧os.getD i 0≤1000)(hx:0≤x∧x≤1000000):∀d,k+d≤os.length→0≤xq os k x d∧xq os k x d≤1000000:=by
  intro d;induction d with
  |zero=>intro _;exact hx
  | succ d ih=>
    intro hd;have h1:=ih (by omega);have h2:=ho (k+d) (by omega);rw[xq,Int.tdiv_eq_ediv_of_nonneg h1.1];refine⟨Int.ediv_nonneg h1.1 (by omega),?_⟩;have:=Int.ediv_le_self (os.getD (k+d) 0) h1.1;omega
theorem RJ(os:List Int)(k:Nat)(x0:Int)(hn:os.length≤1000)(hk:k≤os.length)(ho:∀i,i<os.length→2≤os.getD i 0∧os.getD i 0≤1000)(hx:0≤x0∧x0≤1000000):W9 Tryz.prog 155 [ints os,.i .i64 k,.i .i64 x0] (ints (Cg os k x0)):=by
 intro nx
 refine AC.AM A9 Tryz.func155 rfl (by kernel_rfl) Tryz.ntmps155 Tryz.results155 (fun cX=>?_)
 refine sQ fun N hN=>?_;simp-dsimp-implicitDefEqProofs(disch:=omega)only[go_sem,ints,A6];apply hN;refine sQ fun N hN=>?_;simp-dsimp-implicitDefEqProofs(disch:=omega)only[go_sem,ints,A6];apply hN;refine AW.seq fun N1 BC=>?_;refine sQ fun N hN=>?_;simp-dsimp-implicitDefEqProofs(disch:=omega)only[go_sem,ints,A6];apply hN;apply AW.block;refine AW.AF (α:=Nat×Int×(Nat→Int)) (fun x=>sl 35 [(0,ints os),(2,.i .i64 x.2.1),(7,.h (nx+1+2) 0 os.length),(8,.i .i64 ((k+x.1:Nat):Int))]) (fun x=>AU BN (nx+1+2) (some (DM os.length x.2.2))) (fun x m=>(k+x.1≤os.length∧nx+4≤m)∧x.2.1=xq os k x0 x.1∧∀i,i<os.length→x.2.2 i=if i<k+x.1 then Uv os k x0 i else 0) (fun x=>os.length-(k+x.1)) ((0,x0,fun _=>0)) ?_ ?_ (by rw[CA];exact Le.refl _) ?_
 ·exact⟨⟨by simp;omega,by first|omega|(dsimp only;omega)⟩,rfl,fun i hi=>by dsimp only;unfold Uv;split<;>(try (rw[if_pos (by omega)]))<;>rfl⟩
 ·simp(disch:=omega) [AO,AQ,sl,AJ,ints,rows,A4,AJ,ints,A6]<;>omega
 skip
 rintro⟨d,y,f⟩ m ⟨⟨hd,hm⟩,hy,hf⟩
 simp-dsimp-implicitDefEqProofs(disch:=omega)only[go_sem];dsimp only at hd hm hy hf ⊢
 have hyb:=Ch (k:=k) (fun i hi=>ho i hi) hx d hd
 rw[←hy]at hyb
 refine AW.seq fun N2 BM=>?_;refine sQ fun N hN=>?_;simp-dsimp-implicitDefEqProofs(disch:=omega)only[go_sem,ints,A6];apply hN;refine AW.cond rfl ?_ ?_<;>intro h1
 ·try simp only[cn]at h1
  have hz:¬os.getD (k+d) 0=0:=by have:=ho (k+d) (by omega);omega
  have hyw:IntKind.i64.wrap (y.tdiv (os.getD (k+d) 0))=y.tdiv (os.getD (k+d) 0):=by
   have h2:=Ch (k:=k) (fun i hi=>ho i hi) hx (d+1) (by omega);rw[xq,←hy]at h2;exact AJ (by omega) (by omega)
  apply AW.skip;apply BM;refine AW.seq fun N3 BQ=>?_;apply AW.block;refine sQ fun N hN=>?_;simp-dsimp-implicitDefEqProofs(disch:=omega)only[go_sem,ints,A6,hz];apply hN;apply rQ;simp-dsimp-implicitDefEqProofs(disch:=omega)only[go_sem,ints,A6,hz,hyw];apply BQ;apply rQ;simp-dsimp-implicitDefEqProofs(disch:=omega)only[go_sem,ints,A6];refine⟨(d+1,y.tdiv (os.getD (k+d) 0),AX f (k+d) (y.tmod (os.getD (k+d) 0))),?_,fun _ _ h=>h,?_,?_⟩
  ·simp(disch:=omega) [AO,AQ,sl,AJ,ints]<;>omega
  ·refine⟨⟨by first|omega|(dsimp only;omega),by first|omega|(dsimp only;omega)⟩,by dsimp only;rw[xq,hy],fun i hi=>?_⟩;dsimp only;by_cases e:i=k+d
   ·simp only[AX];rw[if_pos e,if_pos (by omega),e,Uv,if_neg (by omega),Nat.add_sub_cancel_left,←hy]
   simp only[AX];rw[if_neg e,hf i hi];by_cases e2:i<k+d
   ·rw[if_pos e2,if_pos (by omega)]
   rw[if_neg e2,if_neg (by omega)]
  first|omega|(simp only;omega)
 try simp only[cn]at h1
 apply AW.exit;apply BC;refine sQ fun N hN=>?_;simp-dsimp-implicitDefEqProofs(disch:=omega)only[go_sem,ints,A6];apply hN;apply AW.ret;simp-dsimp-implicitDefEqProofs(disch:=omega)only[go_sem];rw[FJ (f:=f) (g:=Uv os k x0) (fun i hi=>by rw[hf i hi,if_pos (by omega)])]
 exact⟨_,Own.ints (by rw[A1,Cg,HT]) (by rw[ZE]) (by omega) (by omega)⟩
theorem fI{a b A B:Int}(h1:0≤a)(h2:a≤A)(h3:0≤b)(h4:b≤B):0≤a*b∧a*b≤A*B:=
  ⟨Int.mul_nonneg h1 h3,Int.mul_le_mul h2 h4 h3 (by omega)⟩
theorem cF{a m:Int}(h:0≤a)(hm:1≤m):0≤a.tmod m∧a.tmod m<m:=by
  rw[Int.tmod_eq_emod_of_nonneg h];exact⟨Int.emod_nonneg _ (by omega),Int.emod_lt_of_pos _ (by omega)⟩
def Uw(m:Int)(r:AV):Prop:=∃x,r= .i .i64 x∧0≤x∧x<m
theorem SM(b e n:Int)(hn:1≤n∧n≤1000)(hb:0≤b∧b≤1000)(he:0≤e∧e≤1000):∀nx,AC Tryz.prog 156 nx BN [.i .i64 b,.i .i64 e,.i .i64 n] (fun nx' H' r=>∃r2,Fz H' (GH nx H') r r2∧Uw n r2):=by
 have hz:¬n=0:=by omega
 intro nx
 refine AC.AM A9 Tryz.func156 rfl (by kernel_rfl) Tryz.ntmps156 Tryz.results156 (fun cX=>?_)
 refine sQ fun N hN=>?_;simp-dsimp-implicitDefEqProofs(disch:=omega)only[go_sem,hz];apply hN;refine sQ fun N hN=>?_;simp-dsimp-implicitDefEqProofs(disch:=omega)only[go_sem,hz];apply hN;refine AW.seq fun N1 BC=>?_;apply AW.block;refine AW.AF (α:=Int×Int×Int) (fun x=>sl 28 [(0,.i .i64 x.2.1),(1,.i .i64 x.2.2),(2,.i .i64 n),(7,.i .i64 x.1)]) (fun _=>BN) (fun x m=>(0≤x.1∧x.1<n)∧(0≤x.2.1∧x.2.1≤1000)∧(0≤x.2.2∧x.2.2≤1000)) (fun x=>x.2.2.toNat) (((1:Int).tmod n,b,e)) ?_ ?_ (fun _ _ h=>h) ?_
 ·exact⟨cF (by omega) hn.1,hb,he⟩
 ·simp(disch:=omega) [AO,AQ,sl,AJ,ints,rows,A4,AJ,hz]<;>omega
 skip
 rintro⟨o,b,e⟩ m ⟨ho,hb,he⟩
 simp-dsimp-implicitDefEqProofs(disch:=omega)only[go_sem];dsimp only at ho hb he ⊢
 refine AW.seq fun N2 BM=>?_;refine sQ fun N hN=>?_;simp-dsimp-implicitDefEqProofs(disch:=omega)only[go_sem,hz];apply hN;refine AW.cond rfl ?_ ?_<;>intro h1
 ·try simp only[cn]at h1
  have OL:=fI ho.1 (show o≤1000 by omega) hb.1 hb.2;have HQ:=fI hb.1 hb.2 hb.1 hb.2;have h3:=cF OL.1 hn.1;have h4:=cF HQ.1 hn.1;have P6:0≤e.tdiv 2∧e.tdiv 2<e∧e.tdiv 2≤1000:=by rw[Int.tdiv_eq_ediv_of_nonneg he.1];omega
  apply AW.skip;apply BM;apply AW.block;refine AW.seq fun N3 BQ=>?_;refine sQ fun N hN=>?_;simp-dsimp-implicitDefEqProofs(disch:=omega)only[go_sem,hz];apply hN;refine AW.cond rfl ?_ ?_<;>intro h2
  ·try simp only[cn]at h2
   apply rQ;simp-dsimp-implicitDefEqProofs(disch:=omega)only[go_sem,hz];apply BQ;refine sQ fun N hN=>?_;simp-dsimp-implicitDefEqProofs(disch:=omega)only[go_sem,hz];apply hN;apply rQ;simp-dsimp-implicitDefEqProofs(disch:=omega)only[go_sem,hz];refine⟨((o*b).tmod n,(b*b).tmod n,e.tdiv 2),?_,fun _ _ h=>h,?_,?_⟩
   ·simp(disch:=omega) [AO,AQ,sl,AJ,ints,rows,A4,AJ,hz]<;>omega
   ·exact⟨h3,by first|omega|(dsimp only;omega),by first|omega|(dsimp only;omega)⟩
   first|omega|(simp only;omega)
  try simp only[cn]at h2
  apply AW.skip;apply BQ;refine sQ fun N hN=>?_;simp-dsimp-implicitDefEqProofs(disch:=omega)only[go_sem,hz];apply hN;apply rQ;simp-dsimp-implicitDefEqProofs(disch:=omega)only[go_sem,hz];refine⟨(o,(b*b).tmod n,e.tdiv 2),?_,fun _ _ h=>h,?_,?_⟩
  ·simp(disch:=omega) [AO,AQ,sl,AJ,ints,rows,A4,AJ,hz]<;>omega
  ·exact⟨ho,by first|omega|(dsimp only;omega),by first|omega|(dsimp only;omega)⟩
  first|omega|(simp only;omega)
 try simp only[cn]at h1
 apply AW.exit;apply BC;refine sQ fun N hN=>?_;simp-dsimp-implicitDefEqProofs(disch:=omega)only[go_sem,hz];apply hN;apply AW.ret;simp-dsimp-implicitDefEqProofs(disch:=omega)only[go_sem];exact⟨_,.refl _,o,rfl,ho.1,ho.2⟩
theorem SN(b e n:Int)(hn:1≤n∧n≤1000)(hb:0≤b∧b≤1000)(he:0≤e∧e≤1000)(nx:Nat)(H:HP):AC Tryz.prog 156 nx H [.i .i64 b,.i .i64 e,.i .i64 n] (zK nx H (Uw n)):=AC.zz (SM b e n hn hb he nx) H
def uH(w:List Int):Prop:=∀k,0≤w.getD k 0∧w.getD k 0≤10
def Ux(n:Nat)(r:AV):Prop:=∃w,r=ints w∧w.length=n∧uH w
theorem k7{n:Nat}{f:Nat→Int}(h:∀k,k<n→0≤f k∧f k≤10):uH (vec n f):=fun k=>by
  by_cases hk:k<n
  · have:=h k hk;simp[vec,hk];omega
  simp[vec,hk]
set_option maxHeartbeats 1000000 in
theorem SO(p:Int)(hp:1≤p∧p≤10)(v:List Int)(b:List (List Int))(n:Nat)(hn:n≤1000)(hv:uH v)(hb:∀k,uH (b.getD k []))(wW:v.length≤1000)(L5:b.length≤1000)(hbr:∀k,(b.getD k []).length≤1000):∀nx,AC Tryz.prog 159 nx BN [.i .i64 p,ints v,rows b,.i .i64 n] (fun nx' H' r=>∃r2,Fz H' (GH nx H') r r2∧Ux n r2):=by
 have hz:¬p=0:=by omega
 intro nx
 refine AC.AM A9 Tryz.func159 rfl (by kernel_rfl) Tryz.ntmps159 Tryz.results159 (fun cX=>?_)
 refine sQ fun N hN=>?_;simp-dsimp-implicitDefEqProofs(disch:=omega)only[go_sem,ints,rows,A6,A7,hz];apply hN;refine sQ fun N hN=>?_;simp-dsimp-implicitDefEqProofs(disch:=omega)only[go_sem,ints,rows,A6,A7,hz];apply hN;refine AW.seq fun N1 BC=>?_;refine sQ fun N hN=>?_;simp-dsimp-implicitDefEqProofs(disch:=omega)only[go_sem,ints,rows,A6,A7,hz];apply hN;apply AW.block;refine AW.AF (α:=Nat×(Nat→Int)) (fun x=>sl 64 [(0,.i .i64 p),(1,ints v),(2,rows b),(9,.h (nx+1+1) 0 n),(10,.i .i64 x.1)]) (fun x=>AU BN (nx+1+1) (some (DM n x.2))) (fun x m=>(x.1≤1000∧nx+4≤m)∧∀j,j<n→0≤x.2 j∧x.2 j≤10) (fun x=>1001-x.1) ((0,fun _=>0)) ?_ ?_ (by rw[CA];exact Le.refl _) ?_
 ·exact⟨⟨by simp,by first|omega|(dsimp only;omega)⟩,fun j _=>by simp⟩
 ·simp(disch:=omega) [AO,AQ,sl,AJ,ints,rows,A4,AJ,ints,rows,A6,A7,hz]<;>omega
 skip
 rintro⟨i,f⟩ m ⟨⟨hi,hm⟩,hf⟩
 simp-dsimp-implicitDefEqProofs(disch:=omega)only[go_sem];dsimp only at hi hm hf ⊢
 refine AW.seq fun N2 BM=>?_;refine sQ fun N hN=>?_;simp-dsimp-implicitDefEqProofs(disch:=omega)only[go_sem,ints,rows,A6,A7,hz];refine C9.mk' (fun h1=>?_) (fun h1=>?_)
 ·try simp only[cn]at h1
  try simp-dsimp-implicitDefEqProofs(disch:=omega)only[go_sem,ints,rows,A6,A7,hz]
  apply hN;refine AW.cond rfl ?_ ?_<;>intro h2
  ·try simp only[cn]at h2
   apply AW.skip;apply BM;refine AW.seq fun N3 BQ=>?_;apply AW.block;refine sQ fun N hN=>?_;simp-dsimp-implicitDefEqProofs(disch:=omega)only[go_sem,ints,rows,A6,A7,hz];apply hN;apply AW.block;refine AW.AF (α:=Nat×(Nat→Int)) (fun x=>sl 64 [(0,.i .i64 p),(1,ints v),(2,rows b),(9,.h (nx+1+1) 0 n),(10,.i .i64 i),(11,.i .i64 x.1)]) (fun x=>AU BN (nx+1+1) (some (DM n x.2))) (fun x m=>(x.1≤n∧nx+4≤m)∧∀j,j<n→0≤x.2 j∧x.2 j≤10) (fun x=>n-x.1) ((0,f)) ?_ ?_ (fun _ _ h=>h) ?_
   ·exact⟨⟨by simp,by first|omega|(dsimp only;omega)⟩,hf⟩
   ·simp(disch:=omega) [AO,AQ,sl,AJ,ints,rows,A4,AJ,ints,rows,A6,A7,hz]<;>omega
   skip
   rintro⟨j,f⟩ m ⟨⟨hj,hm⟩,hf⟩;simp-dsimp-implicitDefEqProofs(disch:=omega)only[go_sem];dsimp only at hj hm hf ⊢;have A3T:=hbr i;refine AW.seq fun N4 CG=>?_;refine sQ fun N hN=>?_;simp-dsimp-implicitDefEqProofs(disch:=omega)only[go_sem,ints,rows,A6,A7,hz];refine C9.mk' (fun h3=>?_) (fun h3=>?_)
   ·(try simp only[cn]at h3);try simp-dsimp-implicitDefEqProofs(disch:=omega)only[go_sem,ints,rows,A6,A7,hz]
    apply hN;refine AW.cond rfl ?_ ?_<;>intro h4
    ·(try simp only[cn]at h4);have hfj:=hf j (by omega);have hvi:=hv i;have hbj:=hb i j;have J2:=fI hvi.1 hvi.2 hbj.1 hbj.2;have ht:=cF (a:=f j+v.getD i 0*(b.getD i []).getD j 0) (m:=p) (by omega) hp.1;apply AW.skip;apply CG;refine AW.seq fun N5 DW=>?_;apply AW.block;refine AW.BI A9 (by kernel_rfl) 22 (by kernel_rfl) ?_
     simp-dsimp-implicitDefEqProofs(disch:=omega)only[B3,B4,BH,List.take_succ_cons,List.take_zero,List.drop_succ_cons,List.drop_zero,List.take_nil,List.drop_nil,go_sem,undef,AJ,ints,rows,A6,A7,hz];apply DW;apply rQ;simp-dsimp-implicitDefEqProofs(disch:=omega)only[go_sem,ints,rows,A6,A7,hz];refine⟨(j+1,AX f j ((f j+v.getD i 0*(b.getD i []).getD j 0).tmod p)),?_,fun _ _ h=>h,?_,?_⟩
     ·simp(disch:=omega) [AO,AQ,sl,AJ,ints,rows,A4,AJ,ints,rows,A6,A7,hz]<;>omega
     ·refine⟨⟨by first|omega|(dsimp only;omega),by first|omega|(dsimp only;omega)⟩,fun q hq=>?_⟩;dsimp only[AX];split
      ·omega
      exact hf q hq
     first|omega|(simp only;omega)
    (try simp only[cn]at h4);apply AW.exit;apply BQ;apply rQ;simp-dsimp-implicitDefEqProofs(disch:=omega)only[go_sem,ints,rows,A6,A7,hz];refine⟨(i+1,f),?_,fun _ _ h=>h,?_,?_⟩
    ·simp(disch:=omega) [AO,AQ,sl,AJ,ints,rows,A4,AJ,ints,rows,A6,A7,hz]<;>omega
    ·exact⟨⟨by first|omega|(dsimp only;omega),by first|omega|(dsimp only;omega)⟩,hf⟩
    first|omega|(simp only;omega)
   try simp only[cn]at h3
   try simp-dsimp-implicitDefEqProofs(disch:=omega)only[go_sem,ints,rows,A6,A7,hz]
   apply hN;refine AW.C8 rfl ?_;apply AW.exit;apply BQ;apply rQ;simp-dsimp-implicitDefEqProofs(disch:=omega)only[go_sem,ints,rows,A6,A7,hz];refine⟨(i+1,f),?_,fun _ _ h=>h,?_,?_⟩
   ·simp(disch:=omega) [AO,AQ,sl,AJ,ints,rows,A4,AJ,ints,rows,A6,A7,hz]<;>omega
   ·exact⟨⟨by first|omega|(dsimp only;omega),by first|omega|(dsimp only;omega)⟩,hf⟩
   first|omega|(simp only;omega)
  try simp only[cn]at h2
  apply AW.exit;apply BC;refine sQ fun N hN=>?_;simp-dsimp-implicitDefEqProofs(disch:=omega)only[go_sem,ints,rows,A6,A7,hz];apply hN;apply AW.ret;simp-dsimp-implicitDefEqProofs(disch:=omega)only[go_sem];exact⟨_,Fz.Ut (A1 _ _ _) (by omega),_,rfl,C1,k7 hf⟩
 try simp only[cn]at h1
 try simp-dsimp-implicitDefEqProofs(disch:=omega)only[go_sem,ints,rows,A6,A7,hz]
 apply hN;refine AW.C8 rfl ?_;apply AW.exit;apply BC;refine sQ fun N hN=>?_;simp-dsimp-implicitDefEqProofs(disch:=omega)only[go_sem,ints,rows,A6,A7,hz];apply hN;apply AW.ret;simp-dsimp-implicitDefEqProofs(disch:=omega)only[go_sem];exact⟨_,Fz.Ut (A1 _ _ _) (by omega),_,rfl,C1,k7 hf⟩
theorem SP(p:Int)(hp:1≤p∧p≤10)(v:List Int)(b:List (List Int))(n:Nat)(hn:n≤1000)(hv:uH v)(hb:∀k,uH (b.getD k []))(wW:v.length≤1000)(L5:b.length≤1000)(hbr:∀k,(b.getD k []).length≤1000)(nx:Nat)(H:HP):AC Tryz.prog 159 nx H [.i .i64 p,ints v,rows b,.i .i64 n] (zK nx H (Ux n)):=AC.zz (SO p hp v b n hn hv hb wW L5 hbr nx) H
structure aA(n:Nat)(W:List (List Int)):Prop where
  l:W.length=n
  r:∀w∈W,w.length=n∧uH w
theorem aA.at{n:Nat}{W:List (List Int)}(h:aA n W)(k:Nat):uH (W.getD k [])∧(W.getD k []).length≤n:=by
  by_cases hk:k<W.length
  · rw[List.getD_eq_getElem?_getD,List.getElem?_eq_getElem hk];have:=h.r _ (List.getElem_mem hk);exact⟨this.2,by simp;omega⟩
  rw[List.getD_eq_getElem?_getD,List.getElem?_eq_none (by omega)];exact⟨fun k=>by simp,by simp⟩
def Uy(n:Nat)(r:AV):Prop:=∃W,r=rows W∧aA n W
set_option maxHeartbeats 1000000 in
theorem QC(p:Int)(hp:1≤p∧p≤10)(n:Nat)(hn:n≤10)(a b:List (List Int))(ha:aA n a)(hb:aA n b):∀nx,AC Tryz.prog 157 nx BN [.i .i64 p,rows a,rows b,.i .i64 n] (fun nx' H' r=>∃r2,Fz H' (GH nx H') r r2∧Uy n r2):=by
 have hal:=ha.l
 have L5:=hb.l
 intro nx
 refine AC.AM A9 Tryz.func157 rfl (by kernel_rfl) Tryz.ntmps157 Tryz.results157 (fun cX=>?_)
 refine sQ fun N hN=>?_;simp-dsimp-implicitDefEqProofs(disch:=omega)only[go_sem,rows,A7];apply hN;refine sQ fun N hN=>?_;simp-dsimp-implicitDefEqProofs(disch:=omega)only[go_sem,rows,A7];apply hN;refine AW.seq fun N1 BC=>?_;refine sQ fun N hN=>?_;simp-dsimp-implicitDefEqProofs(disch:=omega)only[go_sem,rows,A7];apply hN;apply AW.block;refine AW.AF (α:=Nat×HP×AV×List (List Int)) (fun x=>sl 30 [(0,.i .i64 p),(1,rows a),(2,rows b),(3,.i .i64 n),(9,x.2.2.1),(10,.i .i64 x.1)]) (fun x=>x.2.1) (fun x m=>(x.1≤n∧nx+3≤m)∧LC x.2.1 nx m x.2.2.1 (x.2.2.2.map ints)∧x.2.2.2.length=x.1∧∀w∈x.2.2.2,w.length=n∧uH w) (fun x=>n-x.1) ((0,AU BN (nx+1) (some []),.h (nx+1) 0 0,[])) ?_ ?_ (fun _ _ h=>h) ?_
 ·exact⟨⟨by simp,by first|omega|(dsimp only;omega)⟩,LC.mk (A1 _ _ _) rfl (by omega) (by first|omega|(dsimp only;omega)),rfl,by simp⟩
 ·simp(disch:=omega) [AO,AQ,sl,AJ,ints,rows,A4,AJ,rows,A7]<;>omega
 skip
 rintro⟨i,G,L,W⟩ m ⟨⟨hi,hm⟩,hL,sC,hW⟩
 simp-dsimp-implicitDefEqProofs(disch:=omega)only[go_sem];dsimp only at hi hm hL sC hW ⊢
 have NU:=hL.one
 have KQ:=hL.len
 refine AW.seq fun N2 BM=>?_;refine sQ fun N hN=>?_;simp-dsimp-implicitDefEqProofs(disch:=omega)only[go_sem,rows,A7];apply hN;refine AW.cond rfl ?_ ?_<;>intro h1
 ·try simp only[cn]at h1
  have hai:=ha.at i;apply AW.skip;apply BM;refine AW.seq fun N3 BQ=>?_;apply AW.block;apply rQ;simp-dsimp-implicitDefEqProofs(disch:=omega)only[go_sem,rows,A7];refine(SP p hp (a.getD i []) b n (by omega) hai.1 (fun k=>(hb.at k).1) (by omega) (by omega) (fun k=>by have:=(hb.at k).2;omega) _ _).AG ?_
  rintro m1 H1 r1 MW ⟨⟨w,rfl,n5,hws⟩,CK⟩;have hL1:=hL.AD (H':=H1) (fun j h1 h2=>CK j (by omega));try simp-dsimp-implicitDefEqProofs(disch:=(first|omega|((repeat refine LC.AU (by omega) ?_);assumption))) only[go_sem,NU,KQ,CC (a:=nx) (b:=m) (L:=L) (cs:=W.map ints)]
  apply BQ;refine AW.BD (fun G3 D3=>?_);dsimp only at D3;apply rQ;simp-dsimp-implicitDefEqProofs(disch:=omega)only[go_sem,rows,A7];refine⟨(i+1,G3,.h (m+4+10) 0 (W.length+1),W++[w]),?_,fun _ _ h=>h,?_,?_⟩
  ·simp(disch:=omega) [AO,AQ,sl,AJ,rows]<;>omega
  ·have IZ:LC G3 nx (m1+3) (.h (m+4+10) 0 (W.length+1)) ((W++[w]).map ints):=LC.mk (by rw[←D3,List.map_append];simp(disch:=omega)only[A0,A1];rfl) (by simp) (by omega) (by omega);have Nh:∀z∈W++[w],z.length=n∧uH z:=HZ hW ⟨n5,hws⟩;first|exact⟨⟨by first|omega|(dsimp only;omega),by first|omega|(dsimp only;omega)⟩,IZ,by simp;omega,Nh⟩|exact⟨by first|omega|(dsimp only;omega),IZ,by simp;omega,Nh⟩
  first|omega|(simp only;omega)
 try simp only[cn]at h1
 apply AW.exit;apply BC;refine sQ fun N hN=>?_;simp-dsimp-implicitDefEqProofs(disch:=omega)only[go_sem,rows,A7];apply hN;apply AW.ret;simp-dsimp-implicitDefEqProofs(disch:=omega)only[go_sem];exact⟨_,hL.Us (Nat.le_refl _),W,rfl,by omega,hW⟩
theorem QD(p:Int)(hp:1≤p∧p≤10)(n:Nat)(hn:n≤10)(a b:List (List Int))(ha:aA n a)(hb:aA n b)(nx:Nat)(H:HP):AC Tryz.prog 157 nx H [.i .i64 p,rows a,rows b,.i .i64 n] (zK nx H (Uy n)):=AC.zz (QC p hp n hn a b ha hb nx) H
theorem Ju(x:ByteArray):(∀z∈ [AV.s x],one z=true)=True:=by simp[one]
attribute [go_sem] Ju
def strs(xs:List ByteArray):AV:= .v xs.length (xs.map .s)
theorem zE(xs:List ByteArray):NR (strs xs):= .v _ _ fun k x hk=>by
  rw[List.getElem?_map]at hk;obtain⟨y,_,rfl⟩:=Option.map_eq_some_iff.1 hk;exact .s _
def sD(l:Int):Int:=if l>0 then IntKind.u8.wrap (IntKind.i64.wrap (IntKind.i64.wrap (97+l)-1))else IntKind.u8.wrap (IntKind.i64.wrap (IntKind.i64.wrap (65-l)-1))
def fJ(w:List Int):ByteArray:=if w=[]then ⟨#[49]⟩else strOfNums (w.map sD)
theorem VD(w:List Int):(fJ w).size≤w.length+1:=by
  unfold fJ;split
  · show 1≤_;omega
  rw[strOfNums_size,List.length_map];omega
theorem cG{w:List Int}{k:Nat}(h:k<w.length):(w.map sD).take (k+1)=(w.map sD).take k++[sD (w.getD k 0)]:=by
  rw[List.take_succ_eq_append_getElem (by simpa using h)];simp[h]
theorem Uz{α β:Type}(f:α→β)(K:List α):(K.map f).take K.length=K.map f:=by
  have h:=List.take_length (l:=K.map f);rwa [List.length_map]at h
theorem HK(w:List Int)(hw:w.length≤1048576):BG Tryz.prog 169 [ints w] (.s (fJ w)):=by
 refine BG.AM A9 Tryz.func169 rfl (by kernel_rfl) Tryz.ntmps169 Tryz.results169 (.s _) (fun nx cX=>?_)
 refine sQ fun N hN=>?_;simp-dsimp-implicitDefEqProofs(disch:=omega)only[go_sem,ints,A6];apply hN;refine AW.seq fun N1 BC=>?_;refine sQ fun N hN=>?_;simp-dsimp-implicitDefEqProofs(disch:=omega)only[go_sem,ints,A6];apply hN;refine AW.cond rfl ?_ ?_<;>intro h1
 ·try simp only[cn]at h1
  refine sQ fun N hN=>?_;simp-dsimp-implicitDefEqProofs(disch:=omega)only[go_sem,ints,A6];apply hN;apply AW.ret;simp-dsimp-implicitDefEqProofs(disch:=omega)only[go_sem];rw[fJ,if_pos (List.length_eq_zero_iff.1 (by omega))]
 try simp only[cn]at h1
 apply AW.skip;apply BC;refine sQ fun N hN=>?_;simp-dsimp-implicitDefEqProofs(disch:=omega)only[go_sem,ints,A6];apply hN;refine AW.seq fun N2 BM=>?_;refine sQ fun N hN=>?_;simp-dsimp-implicitDefEqProofs(disch:=omega)only[go_sem,ints,A6];apply hN;apply AW.block;refine AW.AF (α:=Nat×Nat×List Int) (fun x=>sl 42 [(0,ints w),(3,.h x.2.1 0 x.2.2.length),(4,.i .i64 x.1)]) (fun x=>AU BN x.2.1 (some (x.2.2.map (.i .u8)))) (fun x m=>(x.1≤w.length∧x.2.1<m)∧x.2.2=(w.map sD).take x.1) (fun x=>w.length-x.1) ((0,nx+4,[])) ?_ ?_ (by intro d cs hd;simp only[AU,BN,List.map_nil]at hd ⊢;grind) ?_
 ·exact⟨⟨by omega,by first|omega|(dsimp only;omega)⟩,by simp⟩
 ·simp(disch:=omega) [AO,AQ,sl,AJ,ints,rows,A4,ints,A6,AJ]<;>omega
 skip
 rintro⟨k,id,K⟩ m ⟨⟨hk,DA⟩,hK⟩
 dsimp only at hk DA hK ⊢
 have Sp:K.length=k:=by rw[hK,List.length_take,List.length_map];omega
 refine AW.seq fun N3 BQ=>?_;refine sQ fun N hN=>?_;simp-dsimp-implicitDefEqProofs(disch:=omega)only[go_sem,ints,A6];apply hN;refine AW.cond rfl ?_ ?_<;>intro h2
 ·try simp only[cn]at h2
  apply AW.skip;apply BQ;refine AW.seq fun N4 CG=>?_;apply AW.block;refine sQ fun N hN=>?_;simp-dsimp-implicitDefEqProofs(disch:=omega)only[go_sem,ints,A6];apply hN;refine AW.cond rfl ?_ ?_<;>intro h3
  ·try simp only[cn]at h3
   have Dv:w.getD k 0>0:=by omega
   apply rQ;simp-dsimp-implicitDefEqProofs(disch:=omega)only[go_sem,ints,A6];apply CG;apply rQ;simp-dsimp-implicitDefEqProofs(disch:=omega)only[go_sem,ints,A6];skip;refine⟨(k+1,m+4+5+9,K++[sD (w.getD k 0)]),?_,by intro d cs hd;simp only[AU,BN,B1,List.map_append,List.map_cons,List.map_nil,sD,if_pos Dv]at hd ⊢;grind,?_,?_⟩
   ·simp(disch:=omega) [AO,AQ,sl,AJ,ints,rows,A4,ints,A6,AJ]<;>omega
   ·exact⟨⟨by omega,by first|omega|(dsimp only;omega)⟩,by simp only[];rw[cG (by omega),hK]⟩
   first|omega|(simp only;omega)
  try simp only[cn]at h3
  have Dv:¬w.getD k 0>0:=by omega
  apply rQ;simp-dsimp-implicitDefEqProofs(disch:=omega)only[go_sem,ints,A6];apply CG;apply rQ;simp-dsimp-implicitDefEqProofs(disch:=omega)only[go_sem,ints,A6];skip;refine⟨(k+1,m+4+5+9,K++[sD (w.getD k 0)]),?_,by intro d cs hd;simp only[AU,BN,B1,List.map_append,List.map_cons,List.map_nil,sD,if_neg Dv]at hd ⊢;grind,?_,?_⟩
  ·simp(disch:=omega) [AO,AQ,sl,AJ,ints,rows,A4,ints,A6,AJ]<;>omega
  ·exact⟨⟨by omega,by first|omega|(dsimp only;omega)⟩,by simp only[];rw[cG (by omega),hK]⟩
  first|omega|(simp only;omega)
 try simp only[cn]at h2
 apply AW.exit;apply BM;refine sQ fun N hN=>?_;simp-dsimp-implicitDefEqProofs(disch:=omega)only[go_sem,ints,A6,Uz,gZ];apply hN;apply AW.ret;simp-dsimp-implicitDefEqProofs(disch:=omega)only[go_sem];have Z7:w≠ []:=by rintro rfl;simp at h1
 have R8:K=w.map sD:=by rw[hK,show k=(w.map sD).length by rw[List.length_map];omega,List.take_length]
 rw[fJ,if_neg Z7,R8]
def dg(n:Int):ByteArray:=⟨(Lib.decDigits n.toNat).toArray⟩
theorem Va{n:Int}(h0:0≤n)(h1:n<10):strOfNums [IntKind.u8.wrap (48+n)]=dg n:=by
  have h:n=0∨n=1∨n=2∨n=3∨n=4∨n=5∨n=6∨n=7∨n=8∨n=9:=by omega
  rcases h with rfl|rfl|rfl|rfl|rfl|rfl|rfl|rfl|rfl|rfl<;>(unfold dg Lib.decDigits;rfl)
theorem ZF{n:Int}(h0:0≤n)(h1:n<10):(dg n).size=1:=by rw[←Va h0 h1,strOfNums_size];rfl
theorem FR(n:Int)(h0:0≤n)(hn:n<10):BG Tryz.prog 167 [.i .i64 n] (.s (dg n)):=by
 refine BG.AM A9 Tryz.func167 rfl (by kernel_rfl) Tryz.ntmps167 Tryz.results167 (.s _) (fun nx cX=>?_)
 refine sQ fun N hN=>?_;simp-dsimp-implicitDefEqProofs(disch:=omega)only[go_sem];apply hN;refine AW.seq fun N1 BC=>?_;refine sQ fun N hN=>?_;simp-dsimp-implicitDefEqProofs(disch:=omega)only[go_sem];apply hN;refine AW.cond rfl ?_ ?_<;>intro h1
 ·try simp only[cn]at h1
  refine sQ fun N hN=>?_;simp-dsimp-implicitDefEqProofs(disch:=omega)only[go_sem,dX,List.map_cons,List.map_nil];apply hN;apply AW.ret;simp-dsimp-implicitDefEqProofs(disch:=omega)only[go_sem];rw[←Va h0 hn]
 try simp only[cn]at h1
 exfalso;omega
theorem ib(c:UInt8):∀l:List UInt8,(l.count c=0∧Lib.indexByte l c= -1)∨∃m:Nat,Lib.indexByte l c=m∧m<l.length∧l.count c=1+(l.drop (m+1)).count c:=by
  intro l;induction l with
  |nil=>exact .inl ⟨rfl,rfl⟩
  | cons b l ih=>
    by_cases hb:b=c
    · subst hb;exact .inr ⟨0,by simp[Lib.indexByte],by simp,by simp;omega⟩
    have AL:(b==c)=false:=by simpa using hb
    have hc:(b::l).count c=l.count c:=List.count_cons_of_ne hb;rcases ih with ⟨h1,h2⟩|⟨m,h1,h2,h3⟩
    · exact .inl ⟨by rw[hc,h1],by simp[Lib.indexByte,AL,h2]⟩
    refine .inr ⟨m+1,?_,by simpa using h2,by rw[hc,h3];rfl⟩;have:¬((m:Int)= -1):=by omega
    simp[Lib.indexByte,AL,h1,this]
def QN(c:UInt8)(s:ByteArray):Nat:=s.data.toList.count c
def cutAt(c:UInt8)(s:ByteArray):Nat:=(Lib.indexByte s.data.toList c).toNat
def X8(c:UInt8):Nat→ByteArray→ByteArray
  |0,s=>s
  |k+1,s=>(X8 c k s).extract (cutAt c (X8 c k s)+1) (X8 c k s).size
def fK(c:UInt8):Nat→ByteArray→List ByteArray
  |0,_=>[]
  |k+1,s=>fK c k s++[(X8 c k s).extract 0 (cutAt c (X8 c k s))]
def nA(c:UInt8)(s:ByteArray):List ByteArray:=fK c (QN c s) s++[X8 c (QN c s) s]
theorem k8(c:UInt8)(s:ByteArray):∀k,(fK c k s).length=k:=by
  intro k;induction k with
  |zero=>rfl
  |succ k ih=>rw[fK,List.length_append,ih];rfl
theorem Y8(s:ByteArray)(a b:Nat):(s.extract a b).data.toList=(s.data.toList.drop a).take (b-a):=by
  rw[ByteArray.data_extract,Array.toList_extract]
theorem k9{c:UInt8}{s:ByteArray}(h:0<QN c s):Lib.indexByte s.data.toList c=(cutAt c s:Int)∧cutAt c s<s.size∧QN c s=1+QN c (s.extract (cutAt c s+1) s.size):=by
  rcases ib c s.data.toList with ⟨h1,_⟩|⟨m,h1,h2,h3⟩
  · unfold QN at h;omega
  have hm:cutAt c s=m:=by unfold cutAt;rw[h1];rfl
  rw[hm];have EW:s.data.toList.length=s.size:=by rw[Array.length_toList];rfl
  refine⟨h1,by omega,?_⟩;unfold QN;rw[Y8,List.take_of_length_le (by rw[List.length_drop];omega)];exact h3
theorem kA(c:UInt8)(s:ByteArray):∀k,k≤QN c s→QN c (X8 c k s)=QN c s-k:=by
  intro k;induction k with
  |zero=>intro _;rfl
  | succ k ih=>
    intro hk;have h1:=ih (by omega);have h2:=(k9 (c:=c) (s:=X8 c k s) (by omega)).2.2;rw[X8];omega
theorem sE(c:UInt8)(s:ByteArray):QN c s≤s.size:=by
  have:=List.count_le_length (a:=c) (l:=s.data.toList);have EW:s.data.toList.length=s.size:=by rw[Array.length_toList];rfl
  unfold QN;omega
theorem kB(c:UInt8)(s:ByteArray):(nA c s).length=QN c s+1:=by
  unfold nA;rw[List.length_append,k8];rfl
theorem ZG{H:HP}{id n:Nat}{cs:List AV}(hn:cs.length=n):Vw (AU H id (some cs)) (.h id 0 n) (.v n cs):=
  .h id 0 n cs cs (A1 _ _ _) (by omega) hn fun k x y hx hy=>by rw[Nat.zero_add]at hx;rw[hx]at hy;cases hy;exact .refl _
theorem cH(c:UInt8)(s:ByteArray):∀k,X8 c (k+1) s=X8 c k (s.extract (cutAt c s+1) s.size):=by
  intro k;induction k with
  |zero=>rfl
  |succ k ih=>rw[X8,ih,X8]
theorem sF(c:UInt8)(s:ByteArray):∀k,fK c (k+1) s=s.extract 0 (cutAt c s)::fK c k (s.extract (cutAt c s+1) s.size):=by
  intro k;induction k with
  |zero=>rfl
  |succ k ih=>rw[fK,ih,cH,fK];rfl
theorem sG{c:UInt8}{s:ByteArray}(h:0<QN c s):nA c s=s.extract 0 (cutAt c s)::nA c (s.extract (cutAt c s+1) s.size):=by
  have h2:=(k9 h).2.2;obtain⟨n,hn⟩:∃n,QN c s=n+1:=⟨QN c s-1,by omega⟩;have h3:QN c (s.extract (cutAt c s+1) s.size)=n:=by omega
  unfold nA;rw[hn,h3,sF,cH];rfl
theorem sH{c:UInt8}{s:ByteArray}(h:QN c s=0):nA c s=[s]:=by
  unfold nA;rw[h];rfl
theorem XA{c:UInt8}(ys:List UInt8):∀xs:List UInt8,xs.count c=0→Lib.indexByte (xs++c::ys) c=xs.length:=by
  intro xs;induction xs with
  |nil=>intro _;simp[Lib.indexByte]
  | cons x xs ih=>
    intro h;rw[List.count_cons]at h;have hx:(x==c)=false:=by
      cases hq:x==c with
      |false=>rfl
      |true=>rw[hq]at h;simp at h
    have h1:=ih (by omega);have:¬((xs.length:Int)= -1):=by omega
    simp[Lib.indexByte,hx,h1,this]
def CP(l:List UInt8):ByteArray:=⟨l.toArray⟩
theorem sI(l:List UInt8):(CP l).data.toList=l:=rfl
theorem VE(s:ByteArray):CP s.data.toList=s:=by cases s;simp[CP]
theorem kC(l:List UInt8)(a b:Nat):(CP l).extract a b=CP ((l.drop a).take (b-a)):=by
  rw[←VE ((CP l).extract a b),Y8];rfl
theorem BB(l:List UInt8):(CP l).size=l.length:=by
  show l.toArray.size=l.length;simp
def aB(c:UInt8):List (List UInt8)→List UInt8
  |[]=>[]
  |[x]=>x
  |x::y::xs=>x++c::aB c (y::xs)
theorem zF(c:UInt8):∀ps:List (List UInt8),ps≠ []→(∀p,p∈ps→p.count c=0)→nA c (CP (aB c ps))=ps.map CP:=by
  intro ps;induction ps with
  |nil=>intro h;exact absurd rfl h
  | cons x xs ih=>
    intro _ hp;have hx:=hp x (List.mem_cons_self ..);cases xs with
    |nil=>rw[aB,sH (by unfold QN;rw[sI];exact hx)];rfl
    | cons y xs=>
      have hi:=XA (c:=c) (aB c (y::xs)) x hx;have hc:cutAt c (CP (aB c (x::y::xs)))=x.length:=by
        unfold cutAt;rw[sI,aB,hi];rfl
      have nU:0<QN c (CP (aB c (x::y::xs))):=by
        unfold QN;rw[sI,aB,List.count_append,List.count_cons];simp;omega
      rw[sG nU,hc,kC,kC,BB,List.drop_zero,Nat.sub_zero,aB,List.take_left,List.map_cons,←ih (by simp) (fun p h=>hp p (List.mem_cons_of_mem _ h))];congr 2
      rw[show x++c::aB c (y::xs)=(x++[c])++aB c (y::xs) by simp,show x.length+1=(x++[c]).length by simp,List.drop_left];congr 1
      exact List.take_of_length_le (by simp;omega)
theorem toL_eq{a b:List UInt8}:(CP a).toList=(CP b).toList↔a=b:=by
  rw[ByteArray.toList_eq,ByteArray.toList_eq];exact Iff.rfl
theorem cI(ps:List (List UInt8)){k:Nat}(h:k<ps.length):((ps.map CP).map AV.s).getD k .j= .s (CP (ps.getD k [])):=by simp[h]
theorem VF{H:HP}{id:Nat}{c:List AV}(h:H id=some c):∀i cs,AU BN id (some c) i=some cs→H i=some cs:=by
  intro i cs hd;simp only[AU]at hd;split at hd
  · rename_i e;subst e;rw[h];exact hd
  cases hd
theorem JC:Int.toNat 1=1:=rfl
theorem JU:Int.toNat 2=2:=rfl
def QE(c:UInt8):List UInt8→List (List UInt8)
  |[]=>[[]]
  | b::l=>if b=c then []::QE c l else match QE c l with
    |x::xs=>(b::x)::xs
    |[]=>[[b]]
theorem ZH(c:UInt8):∀l,QE c l≠ []:=by
  intro l;cases l with
  |nil=>simp[QE]
  | cons b l=>
    rw[QE];split
    · simp
    split<;>simp
theorem ZI(c:UInt8):∀l,aB c (QE c l)=l:=by
  intro l;induction l with
  |nil=>rfl
  | cons b l ih=>
    rw[QE];split
    · rename_i h;subst h;cases hs:QE b l with
      |nil=>exact absurd hs (ZH _ _)
      |cons x xs=>rw[hs]at ih;rw[aB,ih];rfl
    cases hs:QE c l with
    |nil=>exact absurd hs (ZH _ _)
    | cons x xs=>
      rw[hs]at ih;simp only
      cases xs with
      |nil=>rw[aB]at ih ⊢;rw[ih]
      |cons y ys=>rw[aB]at ih ⊢;rw[List.cons_append,ih]
theorem zG(c:UInt8):∀l,∀p,p∈QE c l→p.count c=0:=by
  intro l;induction l with
  |nil=>intro p hp;simp[QE]at hp;subst hp;rfl
  | cons b l ih=>
    intro p hp;rw[QE]at hp;split at hp
    · rcases List.mem_cons.1 hp with rfl|hp
      · rfl
      exact ih p hp
    rename_i hb;cases hs:QE c l with
    |nil=>exact absurd hs (ZH _ _)
    | cons x xs=>
      rw[hs]at hp ih;simp only at hp
      rcases List.mem_cons.1 hp with rfl|hp
      · rw[List.count_cons_of_ne hb];exact ih x (List.mem_cons_self ..)
      exact ih p (List.mem_cons_of_mem _ hp)
theorem kD(c:UInt8)(l:List UInt8):nA c (CP l)=(QE c l).map CP:=by
  have h:=zF c (QE c l) (ZH c l) (zG c l);rwa [ZI]at h
theorem Vb{c:UInt8}:∀{l:List UInt8} {m:Nat},l[m]? =some c→(∀j,j<m→l[j]?≠some c)→Lib.indexByte l c=m:=by
  intro l;induction l with
  |nil=>intro m h;simp at h
  | cons b l ih=>
    intro m h hn;cases m with
    | zero=>
      simp only[List.getElem?_cons_zero,Option.some.injEq]at h;subst h;simp[Lib.indexByte]
    | succ m=>
      have hb:(b==c)=false:=by
        have:=hn 0 (by omega);simpa using this
      have h1:=ih (m:=m) (by simpa using h) (fun j hj=>by have:=hn (j+1) (by omega);simpa using this);have:¬((m:Int)= -1):=by omega
      simp[Lib.indexByte,hb,h1,this]
theorem sJ{c:UInt8}:∀{l:List UInt8},(∀j,j<l.length→l[j]?≠some c)→l.count c=0:=by
  intro l h;rw[List.count_eq_zero];intro hm;obtain⟨j,hj,e⟩:=List.mem_iff_getElem.1 hm;exact h j hj (by rw[List.getElem?_eq_getElem hj,e])
def Scan(c:UInt8)(s:ByteArray)(i k f:Nat):Prop:=
  i≤s.size∧f≤i∧k≤QN c s∧(X8 c k s).data.toList=s.data.toList.drop f∧∀j,f≤j→j<i→s.data.toList[j]?≠some c
theorem Ni(s:ByteArray):s.data.toList.length=s.size:=by rw[Array.length_toList];rfl
theorem toL_inj{a b:ByteArray}(h:a.data.toList=b.data.toList):a=b:=by
  rw[←VE a,←VE b,h]
theorem Scan.start(c:UInt8)(s:ByteArray):Scan c s 0 0 0:=⟨by omega,by omega,by omega,by simp[X8],by intro j _ h;omega⟩
theorem Scan.no{c:UInt8}{s:ByteArray}{i k f:Nat}(h:Scan c s i k f)(hi:i<s.size)(hb:s.data.toList[i]?≠some c):Scan c s (i+1) k f:=by
  obtain⟨h1,h2,h3,h4,h5⟩:=h;refine⟨by omega,by omega,h3,h4,fun j hj ZX=>?_⟩;by_cases e:j=i
  · subst e;exact hb
  exact h5 j hj (by omega)
theorem Scan.yes{c:UInt8}{s:ByteArray}{i k f:Nat}(h:Scan c s i k f)(hb:s.data.toList[i]? =some c):Scan c s (i+1) (k+1) (i+1)∧fK c (k+1) s=fK c k s++[s.extract f i]:=by
  obtain⟨h1,h2,h3,h4,h5⟩:=h;have BW:i<s.size:=by
    have:=(List.getElem?_eq_some_iff.1 hb).1;rw[Ni]at this;exact this
  have hib:Lib.indexByte (X8 c k s).data.toList c=((i-f:Nat):Int):=by
    rw[h4];refine Vb (by rw[List.getElem?_drop,show f+(i-f)=i by omega];exact hb) (fun j hj=>?_);rw[List.getElem?_drop];exact h5 _ (by omega) (by omega)
  have Vc:cutAt c (X8 c k s)=i-f:=by unfold cutAt;rw[hib];rfl
  have nU:0<QN c (X8 c k s):=by
    unfold QN;rw[h4];exact List.count_pos_iff.2 (List.mem_of_getElem? (i:=i-f) (by rw[List.getElem?_drop,show f+(i-f)=i by omega];exact hb))
  have hrc:=kA c s k h3;have EW:(X8 c k s).size=s.size-f:=by rw[←Ni,h4,List.length_drop,Ni]
  refine⟨⟨by omega,by omega,by omega,?_,by intro j hj ZX;omega⟩,?_⟩
  · rw[X8,Y8,Vc,h4,EW,List.drop_drop,List.take_of_length_le (by rw[List.length_drop,Ni];omega)];congr 1;omega
  rw[fK,Vc];congr 2
  apply toL_inj;rw[Y8,Y8,h4,List.drop_zero,Nat.sub_zero]
theorem Scan.done{c:UInt8}{s:ByteArray}{k f:Nat}(h:Scan c s s.size k f):k=QN c s∧nA c s=fK c k s++[s.extract f s.size]:=by
  obtain⟨h1,h2,h3,h4,h5⟩:=h;have h0:QN c (X8 c k s)=0:=by
    unfold QN;rw[h4];refine sJ (fun j hj=>?_);rw[List.length_drop,Ni]at hj;rw[List.getElem?_drop];exact h5 _ (by omega) (by omega)
  have hrc:=kA c s k h3;have hk:k=QN c s:=by omega
  refine⟨hk,?_⟩;unfold nA;rw[←hk];congr 2
  apply toL_inj;rw[h4,Y8,List.take_of_length_le (by rw[List.length_drop,Ni];omega)]
theorem kE{s:ByteArray}{i:Nat}{c:UInt8}(hi:i<s.size):(((s.data.getD i 0).toNat:Int)=(c.toNat:Int))↔s.data.toList[i]? =some c:=by
  have h:s.data.toList[i]? =some (s.data.getD i 0):=by
    rw[Array.getElem?_toList,Array.getD_eq_getD_getElem?];have:i<s.data.size:=hi;rw[Array.getElem?_eq_getElem this];rfl
  rw[h,Option.some.injEq];constructor
  · intro e;exact UInt8.toNat_inj.1 (by omega)
  intro e;rw[e]
set_option maxHeartbeats 2000000 in theorem GI (s:ByteArray) (c:UInt8) (hs:s.size≤2097152):BG Tryz.prog 160 [.s s,.i .u8 c.toNat] (strs (nA c s)):=by
 refine BG.GD A9 Tryz.func160 rfl (by kernel_rfl) Tryz.ntmps160 Tryz.results160 ((zE _)) (fun nx cX=>?_)
 refine sQ fun N hN=>?_;simp-dsimp-implicitDefEqProofs(disch:=omega)only[go_sem];apply hN;refine sQ fun N hN=>?_;simp-dsimp-implicitDefEqProofs(disch:=omega)only[go_sem];apply hN;refine AW.seq fun N1 BC=>?_;refine sQ fun N hN=>?_;simp-dsimp-implicitDefEqProofs(disch:=omega)only[go_sem];apply hN;apply AW.block;refine AW.AF (α:=Nat×Nat×Nat×Nat) (fun x=>sl 35 [(0,.s s),(1,.i .u8 c.toNat),(5,.h x.2.2.2 0 x.2.1),(6,.i .i64 x.2.2.1),(7,.i .i64 x.1)]) (fun x=>AU BN x.2.2.2 (some ((fK c x.2.1 s).map .s))) (fun x m=>Scan c s x.1 x.2.1 x.2.2.1∧x.2.2.2<m) (fun x=>s.size-x.1) ((0,0,0,nx+1+0)) ?_ ?_ (fun _ _ h=>h) ?_
 ·exact⟨Scan.start c s,by first|omega|(dsimp only;omega)⟩
 ·simp(disch:=omega) [AO,AQ,sl,AJ,ints,rows,A4,AJ]<;>omega
 skip
 rintro⟨i,k,f,id⟩ m ⟨Jv,DA⟩
 simp only at Jv DA ⊢
 have XI:=k8 c s k
 have cY:=Jv.1
 have XH:=Jv.2.1
 have O3:=Jv.2.2.1
 have JL:=sE c s
 have g1:(k+1)*16≤140737488355328:=by omega
 have g2:k+1≤9223372036854775807:=by omega
 have mQ:List.take k ((fK c k s).map AV.s)=(fK c k s).map .s:=List.take_of_length_le (by rw[List.length_map];omega)
 refine AW.seq fun N2 BM=>?_;refine sQ fun N hN=>?_;simp-dsimp-implicitDefEqProofs(disch:=omega)only[go_sem];apply hN;refine AW.cond rfl ?_ ?_<;>intro h1
 ·try simp only[cn]at h1
  apply AW.skip;apply BM;refine AW.seq fun N3 BQ=>?_;apply AW.block;refine sQ fun N hN=>?_;simp-dsimp-implicitDefEqProofs(disch:=omega)only[go_sem,Int.toNat_natCast];apply hN;refine AW.cond rfl ?_ ?_<;>intro h2
  ·try simp only[cn]at h2
   have hb:=(kE (by omega)).1 h2;have hy:=Jv.yes hb;refine sQ fun N hN=>?_;simp-dsimp-implicitDefEqProofs(disch:=omega)only[go_sem,Int.toNat_natCast,mQ,g1,g2];apply hN;apply rQ;simp-dsimp-implicitDefEqProofs(disch:=omega)only[go_sem];apply BQ;apply rQ;simp-dsimp-implicitDefEqProofs(disch:=omega)only[go_sem];refine⟨(i+1,k+1,i+1,_),?_,by rw[hy.2,List.map_append];exact VF (A1 _ _ _),?_,?_⟩
   ·simp(disch:=omega) [AO,AQ,sl,AJ,ints,rows,A4,AJ]<;>omega
   ·exact⟨hy.1,by first|omega|(dsimp only;omega)⟩
   first|omega|(simp only;omega)
  try simp only[cn]at h2
  have hb:=fun e=>h2 ((kE (c:=c) (by omega)).2 e)
  have hy:=Jv.no (by omega) hb;apply AW.skip;apply BQ;apply rQ;simp-dsimp-implicitDefEqProofs(disch:=omega)only[go_sem];refine⟨(i+1,k,f,id),?_,fun _ _ h=>h,?_,?_⟩
  ·simp(disch:=omega) [AO,AQ,sl,AJ,ints,rows,A4,AJ]<;>omega
  ·exact⟨hy,by first|omega|(dsimp only;omega)⟩
  first|omega|(simp only;omega)
 try simp only[cn]at h1
 obtain rfl:i=s.size:=by omega
 have hd:=Jv.done
 apply AW.exit;apply BC;refine sQ fun N hN=>?_;simp-dsimp-implicitDefEqProofs(disch:=omega)only[go_sem,Int.toNat_natCast,mQ,g1,g2];apply hN;apply AW.ret;simp-dsimp-implicitDefEqProofs(disch:=omega)only[go_sem];unfold strs
 rw[kB,←hd.1,hd.2,List.map_append]
 exact ZG (by simp[XI])
end Go.Proofs.YtghmeeifjeafmaaGreat
