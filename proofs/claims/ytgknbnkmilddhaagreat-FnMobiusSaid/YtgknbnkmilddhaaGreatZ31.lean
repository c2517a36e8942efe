import Derived.Test.YtgknbnkmilddhaaGreatZ21
import Derived.Test.YtgknbnkmilddhaaGreatZ30
set_option linter.unusedVariables false
set_option linter.unusedSimpArgs false

namespace Go.Proofs.YtgknbnkmilddhaaGreat
theorem Fz.tr{n:Nat}{H H':HP}{a t:AV}(h:Fz H (JI n H) a t)(hk:∀i,n<=i->H' i=H i):Fz H' (JI n H') a t:=by
  have key:∀id (cs:List AV),H id=some cs->JI n H id=none->H' id=some cs/\JI n H' id=none:=λid cs h1 h2=>by
    have DS:n<=id:=by
      apply Classical.byContradiction;intro hn;rw[BH A0,h1]at h2;cases h2
    exact⟨(hk id DS).trans h1,QD DS⟩
  induction h with
  |j a=>exact .j a
  |refl a=>exact .refl a
  |nl=>exact .nl
  |h id o m cs ts h1 h0 h2 h3 h4 ih=>exact .h id o m cs ts (key id cs h1 h0).1 (key id cs h1 h0).2 h2 h3 ih
  |hs s id o m cs ts h1 h0 h2 h3 h4 ih=>exact .hs s id o m cs ts (key id cs h1 h0).1 (key id cs h1 h0).2 h2 h3 ih
  |q id o cs ts h1 h0 h3 h4 ih=>exact .q id o cs ts (key id cs h1 h0).1 (key id cs h1 h0).2 h3 ih
  |g cs ts h3 h4 ih=>exact .g cs ts h3 ih
  |t cs ts h3 h4 ih=>exact .t cs ts h3 ih
  |v m cs ts h3 h4 ih=>exact .v m cs ts h3 ih
  |f m cs ts h3 h4 ih=>exact .f m cs ts h3 ih
def zK(nx:Nat)(H:HP)(Q:AV->Prop):Nat->HP->AV->Prop:=λ_ H' r=>Q r/\∀i,i<nx->H' i=H i
theorem SS{P:Program}{f:FuncId}{xs:List AV}{Q:AV->Prop}{nx:Nat}(h:AC P f nx BM xs (λBB H' r=>∃r2,Fz H' (JI nx H') r r2/\Q r2))(H:HP):AC P f nx H xs (zK nx H Q):=
  (AC.frame (H:=H) h).frz λBB H' r ⟨H0,⟨r2,g1,g2⟩,CD,FA⟩=>⟨JI nx H',r2,PY.JI,g1.tr FA,g2,λi hi=>(BH hi).trans (CD i hi)⟩
theorem Fz.t2{H H':HP}{a b z:AV}(h:Fz H H' a b):Fz H H' (.t [a,z]) (.t [b,z]):= .t _ _ rfl λk x y hx hy=>by
  match k,hx,hy with
  |0,hx,hy=>cases hx;cases hy;exact h
  |1,hx,hy=>cases hx;cases hy;exact .refl _
theorem LC.fzI{n:Nat}{H:HP}{a b:Nat}{L:AV}{xs:List Int}(h:LC H a b L (xs.map (.i .i64)))(hn:n<=a):Fz H (JI n H) L (ints xs):=by
  have:=h.fz hn (ts:=xs.map (.i .i64)) rfl λk x y g1 g2=>by rw[g1]at g2;cases g2;exact .refl _
  simpa[ints]using this
theorem LC.fzR{n:Nat}{H:HP}{a b:Nat}{L:AV}{xs:List (List Int)}(h:LC H a b L (xs.map ints))(hn:n<=a):Fz H (JI n H) L (rows xs):=by
  rw[IU];exact h.fz hn rfl λk x y g1 g2=>by rw[g1]at g2;cases g2;exact .refl _
theorem VO{α:Type}{p:α->Prop}{X:List α}{x:α}(h:∀z∈X,p z)(hx:p x):∀z∈X++[x],p z:=λz hz=>by
  rcases List.mem_append.1 hz with h1|h1
  · exact h z h1
  rw[List.mem_singleton.1 h1];exact hx
theorem aZ{α:Type}{p:α->Prop}{X:List α}{k:Nat}{x:α}(h:∀z∈X,p z)(hx:p x):∀z∈X.set k x,p z:=λz hz=>by
  rcases List.mem_or_eq_of_mem_set hz with h1|h1
  · exact h z h1
  rw[h1];exact hx
theorem Fz.A7W{n a id:Nat}{H:HP}{f:Nat->Int}(h:H id=some (D3 n f))(ha:a<=id):Fz H (JI a H) (.h id 0 n) (ints (vec n f)):=by
  have:=LC.fzI (H:=H) (L:= .h id 0 n) (n:=a) (a:=id) (b:=id+1) (xs:=vec n f) (.inr ⟨id,by rw[List.length_map,BL],by rw[K4];exact h,Nat.le_refl _,Nat.lt_succ_self _⟩) ha;exact this
def A7X(n:Int)(r:AV):Prop:=∃fs b,r= .t [ints fs,.b b]/\(2:Int)^fs.length<=n/\∀x∈fs,2<=x/\x<=7
theorem Jf{k:Nat}{a q d n:Int}(h:(2:Int)^k*a<=n)(hd:2<=d)(hq:0<=q)(e:d*q<=a):(2:Int)^(k+1)*q<=n:=by
  have h1:(0:Int)<=2^k:=Int.pow_nonneg A0;have h2:2*q<=d*q:=Int.mul_le_mul_of_nonneg_right hd hq;have h3:(2:Int)^k*(2*q)<=2^k*a:=Int.mul_le_mul_of_nonneg_left A0 h1;rw[Int.pow_succ,Int.mul_assoc];omega
theorem Sl{a d:Int}(ha:1<=a)(hd:2<=d)(hm:a.tmod d=0):1<=a.tdiv d/\a.tdiv d<a/\d*a.tdiv d<=a:=by
  have h:=Int.tmod_add_tdiv_mul a d;rw[hm]at h;have h2:a.tdiv d*d=a:=A0;have h1:1<=a.tdiv d:=by
    apply Classical.byContradiction;intro hn;have:a.tdiv d*d<=0:=Int.mul_nonpos_of_nonpos_of_nonneg A0 A0;omega
  have h3:a.tdiv d*2<=a.tdiv d*d:=Int.mul_le_mul_of_nonneg_left hd A0;refine⟨h1,A0,by rw[Int.mul_comm];omega⟩
theorem pow_one{k:Nat}{a n:Int}(h:(2:Int)^k*a<=n)(ha:1<=a):(2:Int)^k<=n:=by
  have h1:(0:Int)<=2^k:=Int.pow_nonneg A0;have h2:(2:Int)^k*1<=2^k*a:=Int.mul_le_mul_of_nonneg_left ha h1;omega
theorem VP{k:Nat}{n:Int}(h:(2:Int)^k<=n)(hn:n<=729):k<=9/\(n<=64->k<=6):=by
  have key:∀j,(2:Int)^j*(2:Int)^(k-j)=2^k\/k<j:=λj=>by
    by_cases hj:j<=k
    · left;rw[<-Int.pow_add];congr 1;omega
    right;omega
  have pos:∀j,(1:Int)<=2^j:=λj=>by
    induction j with
    |zero=>decide
    |succ j ih=>rw[Int.pow_succ];omega
  refine⟨?_,λh64=>?_⟩
  · rcases key 10 with e|e
    · have:=pos (k-10);rw[show(2:Int)^10=1024 from rfl]at e;omega
    omega
  rcases key 7 with e|e
  · have:=pos (k-7);rw[show(2:Int)^7=128 from rfl]at e;omega
  omega
set_option maxHeartbeats 2000000 in theorem VQ (n:Int) (h0:1<=n) (h1:n<=729):∀nx,AC Tryz.prog 258 nx BM [.i .i64 n] (λBB H' r=>∃r2,Fz H' (JI nx H') r r2/\A7X n r2):=by
 intro nx
 refine BS AA Tryz.func258 rfl A7 Tryz.ntmps258 Tryz.results258 (λcX=>?_)
 refine B8 ?_;refine B8 ?_;refine AW.seq λN1 B2=>?_;refine B8 ?_;apply AW.block;refine A8 (α:=Nat×HP×AV×List Int×Int) (λx=>sl 29 [(0,.i .i64 x.2.2.2.2),(4,x.2.2.1),(5,.i .i64 ((x.1:Int)+2))]) (λx=>x.2.1) (λx m=>(x.1<=6/\nx+3<=m)/\LC x.2.1 nx m x.2.2.1 (x.2.2.2.1.map (.i .i64))/\(1<=x.2.2.2.2/\x.2.2.2.2<=729/\(2:Int)^x.2.2.2.1.length*x.2.2.2.2<=n)/\x.2.2.2.1.length<=1000/\∀z∈x.2.2.2.1,2<=z/\z<=7) (λx=>6-x.1) ((0,AT BM (nx+2) (some []),.h (nx+2) 0 0,[],n)) ?_ ?_ (λ_ _ h=>h) ?_
 ·exact⟨⟨AB,A9⟩,LC.mk (A4 _ _ _) rfl A0 A9,by simp;omega,AB,AB⟩
 ·simp(disch:=omega) [AN,AO,sl]
 skip
 rintro⟨k,G,L,fs,a⟩ m ⟨⟨hk,hm⟩,hL,⟨ha,Me,hp⟩,Mb,fW⟩
 refine AG ?_;dsimp only at hk hm hL ha Me hp Mb fW ⊢
 refine AW.seq λN2 B7=>?_;refine B8 ?_;refine AW.cond rfl ?_ ?_<;>intro h1<;>try simp only[cn]at h1
 ·apply AW.skip;apply B7;refine AW.seq λN3 BC=>?_;apply AW.block;apply AW.block;refine A8 (α:=HP×AV×List Int×Int) (λx=>sl 29 [(0,.i .i64 x.2.2.2),(4,x.2.1),(5,.i .i64 ((k:Int)+2))]) (λx=>x.1) (λx m=>nx+3<=m/\LC x.1 nx m x.2.1 (x.2.2.1.map (.i .i64))/\(1<=x.2.2.2/\x.2.2.2<=729/\(2:Int)^x.2.2.1.length*x.2.2.2<=n)/\x.2.2.1.length<=1000/\∀z∈x.2.2.1,2<=z/\z<=7) (λx=>x.2.2.2.toNat) ((G,L,fs,a)) ?_ ?_ (λ_ _ h=>h) ?_
  ·exact⟨A9,hL.wide A0 A9,⟨ha,Me,hp⟩,Mb,fW⟩
  ·simp(disch:=omega) [AN,AO,sl]
  skip
  rintro⟨G,L,fs,a⟩ m ⟨hm,hL,⟨ha,Me,hp⟩,Mb,fW⟩;refine AG ?_;dsimp only at hm hL ha Me hp Mb fW ⊢;have MA:=hL.one;have IJ:=hL.len;refine AW.seq λN4 CF=>?_;refine sQ λN hN=>?_;refine AG ?_;refine KP (IN ((k:Int)+2)) ?_
  refine CH.mk' (λh2=>?_) (λh2=>?_)
  ·try simp only[cn]at h2
   refine AG ?_
   apply hN;refine AW.cond rfl ?_ ?_<;>intro h3<;>try simp only[cn]at h3
   ·have hd:=Sl (d:=(k:Int)+2) ha A0 h3;apply AW.skip;apply CF;apply AW.block;refine sQ λN hN=>?_;simp-dsimp-implicitDefEqProofs(disch:=(first|omega|((repeat refine LC.AT A0 ?_);assumption))) only[go_sem,MA,IJ,BP (a:=nx) (b:=m) (L:=L) (cs:=fs.map (.i .i64))]
    apply hN;refine AI (λG3 CB=>?_);dsimp only at CB;refine GN ?_;refine⟨(G3,.h (m+8+3) 0 (fs.length+1),fs++[(k:Int)+2],a.tdiv ((k:Int)+2)),?_,λ_ _ h=>h,?_,?_⟩
    ·simp(disch:=omega) [AN,AO,sl,AR]
    ·have GA:LC G3 nx (m+8+5+4) (.h (m+8+3) 0 (fs.length+1)) ((fs++[(k:Int)+2]).map (.i .i64)):=LC.mk (by rw[<-CB,List.map_append];simp(disch:=omega)only[A1,A4];rfl) AB A0 A0;have hps:=Jf hp (show 2<=(k:Int)+2 by omega) A0 hd.2.2;have Sn:∀z∈fs++[(k:Int)+2],2<=z/\z<=7:=VO fW A0;have O1:(fs++[(k:Int)+2]).length<=1000:=by rw[List.length_append,List.length_singleton];have:=(VP (pow_one hp ha) A0).1;omega
     have TF:(2:Int)^(fs++[(k:Int)+2]).length*a.tdiv ((k:Int)+2)<=n:=by rw[List.length_append];exact hps
     first|exact⟨A9,GA,⟨A9,A9,TF⟩,O1,Sn⟩|exact⟨GA,⟨A9,A9,TF⟩,O1,Sn⟩
    first|omega|(simp only;omega)
   apply AW.exit;apply BC;refine GN ?_;refine⟨(k+1,G,L,fs,a),?_,λ_ _ h=>h,?_,?_⟩
   ·simp(disch:=omega) [AN,AO,sl,AR]<;>omega
   ·exact⟨⟨A9,A9⟩,hL.wide A0 A9,⟨ha,Me,hp⟩,Mb,fW⟩
   first|omega|(simp only;omega)
  try simp only[cn]at h2
  refine AG ?_
  apply hN;refine B4 rfl ?_;apply AW.exit;apply BC;refine GN ?_;refine⟨(k+1,G,L,fs,a),?_,λ_ _ h=>h,?_,?_⟩
  ·simp(disch:=omega) [AN,AO,sl,AR]<;>omega
  ·exact⟨⟨A9,A9⟩,hL.wide A0 A9,⟨ha,Me,hp⟩,Mb,fW⟩
  first|omega|(simp only;omega)
 apply AW.exit;apply B2;refine B8 ?_;refine AH ?_;exact⟨_,Fz.t2 (hL.fzI (Nat.le_refl _)),fs,_,rfl,pow_one hp ha,fW⟩
theorem FG(n:Int)(h0:1<=n)(h1:n<=729)(nx:Nat)(H:HP):AC Tryz.prog 258 nx H [.i .i64 n] (zK nx H (A7X n)):=SS (VQ n h0 h1 nx) H
def qI(b:Nat)(v:List Int)(e:Nat):List Int:=List.replicate b 0++v++List.replicate e 0
theorem RB(b:Nat)(v:List Int)(e:Nat):(qI b v e).length=b+v.length+e:=by simp[qI];omega
theorem Jg(b:Nat)(v:List Int)(e:Nat):List.take (b+v.length) (List.take b (List.replicate b (AV.i .i64 0))++List.map (AV.i .i64) v)++List.replicate e (AV.i .i64 0)=(qI b v e).map (.i .i64):=by
  rw[List.take_of_length_le AB,List.take_of_length_le AB];simp[qI]
theorem ZC(b:Nat)(v:List Int)(e:Nat)(hb:b<=1000)(hv:v.length<=1000)(he:e<=1000):gE Tryz.prog 227 [.i .i64 b,ints v,.i .i64 e] (ints (qI b v e)):=by
 intro nx
 refine BS AA Tryz.func227 rfl A7 Tryz.ntmps227 Tryz.results227 (λcX=>?_)
 refine jS ?_;refine jS ?_;refine jS ?_;refine AH ?_;rw[Jg]
 exact⟨_,Own.ints (A4 _ _ _) (by rw[RB]) A0 A0⟩
def xq(os:List Int)(k:Nat)(x:Int):Nat->Int
  |0=>x
  |d+1=>(xq os k x d).tdiv (os.getD (k+d) 0)
def dgF(os:List Int)(k:Nat)(x:Int)(i:Nat):Int:=if i<k then 0 else (xq os k x (i-k)).tmod (os.getD i 0)
def Vt(os:List Int)(k:Nat)(x:Int):List Int:=vec os.length (dgF os k x)
theorem lK(os:List Int)(k:Nat)(x:Int):(Vt os k x).length=os.length:=by simp[Vt,vec]
theorem Vu{os:List Int}{k:Nat}{x:Int}(ho:∀i,i<os.length->2<=os.getD i 0/\os.getD i 0<=1000)(hx:0<=x/\x<=1000000):∀d,k+d<=os.length->0<=xq os k x d/\xq os k x d<=1000000:=by
  intro d;induction d with
  |zero=>intro _;exact hx
  | succ d ih=>
    intro hd;have h1:=ih A0;have h2:=ho (k+d) A0;rw[xq,Int.tdiv_eq_ediv_of_nonneg h1.1];refine⟨Int.ediv_nonneg h1.1 A0,?_⟩;have:=Int.ediv_le_self (os.getD (k+d) 0) h1.1;omega
theorem XN(os:List Int)(k:Nat)(x0:Int)(hn:os.length<=1000)(hk:k<=os.length)(ho:∀i,i<os.length->2<=os.getD i 0/\os.getD i 0<=1000)(hx:0<=x0/\x0<=1000000):gE Tryz.prog 259 [ints os,.i .i64 k,.i .i64 x0] (ints (Vt os k x0)):=by
 intro nx
 refine BS AA Tryz.func259 rfl A7 Tryz.ntmps259 Tryz.results259 (λcX=>?_)
 refine C1 ?_;refine C1 ?_;refine AW.seq λN1 B2=>?_;refine C1 ?_;apply AW.block;refine A8 (α:=Nat×Int×(Nat->Int)) (λx=>sl 35 [(0,ints os),(2,.i .i64 x.2.1),(7,.h (nx+1+2) 0 os.length),(8,.i .i64 ((k+x.1:Nat):Int))]) (λx=>AT BM (nx+1+2) (some (D3 os.length x.2.2))) (λx m=>(k+x.1<=os.length/\nx+4<=m)/\x.2.1=xq os k x0 x.1/\∀i,i<os.length->x.2.2 i=if i<k+x.1 then dgF os k x0 i else 0) (λx=>os.length-(k+x.1)) ((0,x0,λ_=>0)) ?_ ?_ (by rw[CO];exact Le.refl _) ?_
 ·exact⟨⟨by simp;omega,A9⟩,rfl,λi hi=>by dsimp only;unfold dgF;split<;>(try (rw[if_pos A0]))<;>rfl⟩
 ·simp(disch:=omega) [AN,AO,sl,AR,ints,rows,A6,AR,ints,AL]<;>omega
 skip
 rintro⟨d,y,f⟩ m ⟨⟨hd,hm⟩,hy,hf⟩
 refine AG ?_;dsimp only at hd hm hy hf ⊢
 have hyb:=Vu (k:=k) (λi hi=>ho i hi) hx d hd
 rw[<-hy]at hyb
 refine AW.seq λN2 B7=>?_;refine C1 ?_;refine AW.cond rfl ?_ ?_<;>intro h1<;>try simp only[cn]at h1
 ·have hz:¬os.getD (k+d) 0=0:=by have:=ho (k+d) A0;omega
  have hyw:IntKind.i64.wrap (y.tdiv (os.getD (k+d) 0))=y.tdiv (os.getD (k+d) 0):=by
   have h2:=Vu (k:=k) (λi hi=>ho i hi) hx (d+1) A0;rw[xq,<-hy]at h2;exact AR A0 A0
  apply AW.skip;apply B7;refine AW.seq λN3 BC=>?_;apply AW.block;refine sQ λN hN=>?_;simp-dsimp-implicitDefEqProofs(maxSteps:=800000) (disch:=omega)only[go_sem,AL,ints,hz];apply hN;apply rQ;simp-dsimp-implicitDefEqProofs(maxSteps:=800000) (disch:=omega)only[go_sem,AL,ints,hz,hyw];apply BC;refine II ?_;refine⟨(d+1,y.tdiv (os.getD (k+d) 0),AX f (k+d) (y.tmod (os.getD (k+d) 0))),?_,λ_ _ h=>h,?_,?_⟩
  ·simp(disch:=omega) [AN,AO,sl,AR,ints]<;>omega
  ·refine⟨⟨A9,A9⟩,by dsimp only;rw[xq,hy],λi hi=>?_⟩;dsimp only;by_cases e:i=k+d
   ·simp only[AX];rw[if_pos e,if_pos A0,e,dgF,if_neg A0,Nat.add_sub_cancel_left,<-hy]
   simp only[AX];rw[if_neg e,hf i hi];by_cases e2:i<k+d
   ·rw[if_pos e2,if_pos A0]
   rw[if_neg e2,if_neg A0]
  first|omega|(simp only;omega)
 apply AW.exit;apply B2;refine C1 ?_;refine AH ?_;rw[E1 (f:=f) (g:=dgF os k x0) (λi hi=>by rw[hf i hi,if_pos A0])]
 exact⟨_,Own.ints (by rw[A4,Vt,K4]) (by rw[lK]) A0 A0⟩
theorem sY{a b A B:Int}(h1:0<=a)(h2:a<=A)(h3:0<=b)(h4:b<=B):0<=a*b/\a*b<=A*B:=
  ⟨Int.mul_nonneg h1 h3,Int.mul_le_mul h2 h4 h3 A0⟩
theorem pH{a m:Int}(h:0<=a)(hm:1<=m):0<=a.tmod m/\a.tmod m<m:=by
  rw[Int.tmod_eq_emod_of_nonneg h];exact⟨Int.emod_nonneg _ A0,Int.emod_lt_of_pos _ A0⟩
def A7Y(m:Int)(r:AV):Prop:=∃x,r= .i .i64 x/\0<=x/\x<m
theorem ZD(b e n:Int)(hn:1<=n/\n<=1000)(hb:0<=b/\b<=1000)(he:0<=e/\e<=1000):∀nx,AC Tryz.prog 260 nx BM [.i .i64 b,.i .i64 e,.i .i64 n] (λBB H' r=>∃r2,Fz H' (JI nx H') r r2/\A7Y n r2):=by
 have hz:¬n=0:=A0
 intro nx
 refine BS AA Tryz.func260 rfl A7 Tryz.ntmps260 Tryz.results260 (λcX=>?_)
 refine J5 hz ?_;refine J5 hz ?_;refine AW.seq λN1 B2=>?_;apply AW.block;refine A8 (α:=Int×Int×Int) (λx=>sl 28 [(0,.i .i64 x.2.1),(1,.i .i64 x.2.2),(2,.i .i64 n),(7,.i .i64 x.1)]) (λ_=>BM) (λx m=>(0<=x.1/\x.1<n)/\(0<=x.2.1/\x.2.1<=1000)/\(0<=x.2.2/\x.2.2<=1000)) (λx=>x.2.2.toNat) (((1:Int).tmod n,b,e)) ?_ ?_ (λ_ _ h=>h) ?_
 ·exact⟨pH A0 hn.1,hb,he⟩
 ·simp(disch:=omega) [AN,AO,sl,AR,ints,rows,A6,AR,hz]<;>omega
 skip
 rintro⟨o,b,e⟩ m ⟨ho,hb,he⟩
 refine AG ?_;dsimp only at ho hb he ⊢
 refine AW.seq λN2 B7=>?_;refine J5 hz ?_;refine AW.cond rfl ?_ ?_<;>intro h1<;>try simp only[cn]at h1
 ·have bV:=sY ho.1 (show o<=1000 by omega) hb.1 hb.2;have JZ:=sY hb.1 hb.2 hb.1 hb.2;have h3:=pH bV.1 hn.1;have h4:=pH JZ.1 hn.1;have PQ:0<=e.tdiv 2/\e.tdiv 2<e/\e.tdiv 2<=1000:=by rw[Int.tdiv_eq_ediv_of_nonneg he.1];omega
  apply AW.skip;apply B7;apply AW.block;refine AW.seq λN3 BC=>?_;refine J5 hz ?_;refine AW.cond rfl ?_ ?_<;>intro h2<;>try simp only[cn]at h2
  ·apply rQ;simp-dsimp-implicitDefEqProofs(maxSteps:=800000) (disch:=omega)only[go_sem,hz];apply BC;refine J5 hz ?_;apply rQ;simp-dsimp-implicitDefEqProofs(maxSteps:=800000) (disch:=omega)only[go_sem,hz];refine⟨((o*b).tmod n,(b*b).tmod n,e.tdiv 2),?_,λ_ _ h=>h,?_,?_⟩
   ·simp(disch:=omega) [AN,AO,sl,AR,ints,rows,A6,AR,hz]<;>omega
   ·exact⟨h3,A9,A9⟩
   first|omega|(simp only;omega)
  apply AW.skip;apply BC;refine J5 hz ?_;apply rQ;simp-dsimp-implicitDefEqProofs(maxSteps:=800000) (disch:=omega)only[go_sem,hz];refine⟨(o,(b*b).tmod n,e.tdiv 2),?_,λ_ _ h=>h,?_,?_⟩
  ·simp(disch:=omega) [AN,AO,sl,AR,ints,rows,A6,AR,hz]<;>omega
  ·exact⟨ho,A9,A9⟩
  first|omega|(simp only;omega)
 apply AW.exit;apply B2;refine J5 hz ?_;refine AH ?_;exact⟨_,.refl _,o,rfl,ho.1,ho.2⟩
theorem ZE(b e n:Int)(hn:1<=n/\n<=1000)(hb:0<=b/\b<=1000)(he:0<=e/\e<=1000)(nx:Nat)(H:HP):AC Tryz.prog 260 nx H [.i .i64 b,.i .i64 e,.i .i64 n] (zK nx H (A7Y n)):=SS (ZD b e n hn hb he nx) H
def Mf(w:List Int):Prop:=∀k,0<=w.getD k 0/\w.getD k 0<=10
def A7Z(n:Nat)(r:AV):Prop:=∃w,r=ints w/\w.length=n/\Mf w
theorem xH{n:Nat}{f:Nat->Int}(h:∀k,k<n->0<=f k/\f k<=10):Mf (vec n f):=λk=>by
  by_cases hk:k<n
  · have:=h k hk;simp[vec,hk];omega
  simp[vec,hk]
set_option maxHeartbeats 1000000 in
theorem ZF(p:Int)(hp:1<=p/\p<=10)(v:List Int)(b:List (List Int))(n:Nat)(hn:n<=1000)(hv:Mf v)(hb:∀k,Mf (b.getD k []))(hvl:v.length<=1000)(P8:b.length<=1000)(hbr:∀k,(b.getD k []).length<=1000):∀nx,AC Tryz.prog 270 nx BM [.i .i64 p,ints v,rows b,.i .i64 n] (λBB H' r=>∃r2,Fz H' (JI nx H') r r2/\A7Z n r2):=by
 have hz:¬p=0:=A0
 intro nx
 refine BS AA Tryz.func270 rfl A7 Tryz.ntmps270 Tryz.results270 (λcX=>?_)
 refine iD hz ?_;refine iD hz ?_;refine AW.seq λN1 B2=>?_;refine iD hz ?_;apply AW.block;refine A8 (α:=Nat×(Nat->Int)) (λx=>sl 64 [(0,.i .i64 p),(1,ints v),(2,rows b),(9,.h (nx+1+1) 0 n),(10,.i .i64 x.1)]) (λx=>AT BM (nx+1+1) (some (D3 n x.2))) (λx m=>(x.1<=1000/\nx+4<=m)/\∀j,j<n->0<=x.2 j/\x.2 j<=10) (λx=>1001-x.1) ((0,λ_=>0)) ?_ ?_ (by rw[CO];exact Le.refl _) ?_
 ·exact⟨⟨AB,A9⟩,λj _=>AB⟩
 ·simp(disch:=omega) [AN,AO,sl,AR,ints,rows,A6,AR,ints,rows,AL,BN,hz]<;>omega
 skip
 rintro⟨i,f⟩ m ⟨⟨hi,hm⟩,hf⟩
 refine AG ?_;dsimp only at hi hm hf ⊢
 refine AW.seq λN2 B7=>?_;refine sQ λN hN=>?_;refine WM hz ?_;refine CH.mk' (λh1=>?_) (λh1=>?_)
 ·try simp only[cn]at h1
  refine WM hz ?_
  apply hN;refine AW.cond rfl ?_ ?_<;>intro h2<;>try simp only[cn]at h2
  ·apply AW.skip;apply B7;refine AW.seq λN3 BC=>?_;apply AW.block;refine iD hz ?_;apply AW.block;refine A8 (α:=Nat×(Nat->Int)) (λx=>sl 64 [(0,.i .i64 p),(1,ints v),(2,rows b),(9,.h (nx+1+1) 0 n),(10,.i .i64 i),(11,.i .i64 x.1)]) (λx=>AT BM (nx+1+1) (some (D3 n x.2))) (λx m=>(x.1<=n/\nx+4<=m)/\∀j,j<n->0<=x.2 j/\x.2 j<=10) (λx=>n-x.1) ((0,f)) ?_ ?_ (λ_ _ h=>h) ?_
   ·exact⟨⟨AB,A9⟩,hf⟩
   ·simp(disch:=omega) [AN,AO,sl,AR,ints,rows,A6,AR,ints,rows,AL,BN,hz]<;>omega
   skip
   rintro⟨j,f⟩ m ⟨⟨hj,hm⟩,hf⟩;refine AG ?_;dsimp only at hj hm hf ⊢;have AE7:=hbr i;refine AW.seq λN4 CF=>?_;refine sQ λN hN=>?_;refine WM hz ?_;refine CH.mk' (λh3=>?_) (λh3=>?_)
   ·(try simp only[cn]at h3);refine WM hz ?_
    apply hN;refine AW.cond rfl ?_ ?_<;>intro h4<;>try simp only[cn]at h4
    ·have hfj:=hf j A0;have hvi:=hv i;have hbj:=hb i j;have IY:=sY hvi.1 hvi.2 hbj.1 hbj.2;have ht:=pH (a:=f j+v.getD i 0*(b.getD i []).getD j 0) (m:=p) A0 hp.1;apply AW.skip;apply CF;refine AW.seq λN5 DL=>?_;apply AW.block;refine AM AA A7 22 A7 ?_
     (try simp-dsimp-implicitDefEqProofs(maxSteps:=800000) (disch:=omega)only[go_sem,List.drop_nil,List.drop_succ_cons,List.drop_zero,List.take_nil,List.take_succ_cons,List.take_zero,AL,BN,BW,BE,BF,ints,rows,AR,hz]);apply DL;apply rQ;simp-dsimp-implicitDefEqProofs(maxSteps:=800000) (disch:=omega)only[go_sem,AL,BN,ints,rows,hz];refine⟨(j+1,AX f j ((f j+v.getD i 0*(b.getD i []).getD j 0).tmod p)),?_,λ_ _ h=>h,?_,?_⟩
     ·simp(disch:=omega) [AN,AO,sl,AR,ints,rows,A6,AR,ints,rows,AL,BN,hz]<;>omega
     ·refine⟨⟨A9,A9⟩,λq hq=>?_⟩;dsimp only[AX];split
      ·omega
      exact hf q hq
     first|omega|(simp only;omega)
    apply AW.exit;apply BC;apply rQ;simp-dsimp-implicitDefEqProofs(maxSteps:=800000) (disch:=omega)only[go_sem,AL,BN,ints,rows,hz];refine⟨(i+1,f),?_,λ_ _ h=>h,?_,?_⟩
    ·simp(disch:=omega) [AN,AO,sl,AR,ints,rows,A6,AR,ints,rows,AL,BN,hz]<;>omega
    ·exact⟨⟨A9,A9⟩,hf⟩
    first|omega|(simp only;omega)
   try simp only[cn]at h3
   refine WM hz ?_
   apply hN;refine B4 rfl ?_;apply AW.exit;apply BC;apply rQ;simp-dsimp-implicitDefEqProofs(maxSteps:=800000) (disch:=omega)only[go_sem,AL,BN,ints,rows,hz];refine⟨(i+1,f),?_,λ_ _ h=>h,?_,?_⟩
   ·simp(disch:=omega) [AN,AO,sl,AR,ints,rows,A6,AR,ints,rows,AL,BN,hz]<;>omega
   ·exact⟨⟨A9,A9⟩,hf⟩
   first|omega|(simp only;omega)
  apply AW.exit;apply B2;refine iD hz ?_;refine AH ?_;exact⟨_,Fz.A7W (A4 _ _ _) A0,_,rfl,BL,xH hf⟩
 try simp only[cn]at h1
 refine WM hz ?_
 apply hN;refine B4 rfl ?_;apply AW.exit;apply B2;refine iD hz ?_;refine AH ?_;exact⟨_,Fz.A7W (A4 _ _ _) A0,_,rfl,BL,xH hf⟩
theorem ZG(p:Int)(hp:1<=p/\p<=10)(v:List Int)(b:List (List Int))(n:Nat)(hn:n<=1000)(hv:Mf v)(hb:∀k,Mf (b.getD k []))(hvl:v.length<=1000)(P8:b.length<=1000)(hbr:∀k,(b.getD k []).length<=1000)(nx:Nat)(H:HP):AC Tryz.prog 270 nx H [.i .i64 p,ints v,rows b,.i .i64 n] (zK nx H (A7Z n)):=SS (ZF p hp v b n hn hv hb hvl P8 hbr nx) H
structure mN(n:Nat)(W:List (List Int)):Prop where
  l:W.length=n
  r:∀w∈W,w.length=n/\Mf w
theorem mN.at{n:Nat}{W:List (List Int)}(h:mN n W)(k:Nat):Mf (W.getD k [])/\(W.getD k []).length<=n:=by
  by_cases hk:k<W.length
  · rw[List.getD_eq_getElem?_getD,List.getElem?_eq_getElem hk];have:=h.r _ (List.getElem_mem hk);exact⟨this.2,by simp;omega⟩
  rw[List.getD_eq_getElem?_getD,List.getElem?_eq_none A0];exact⟨λk=>AB,AB⟩
def A80(n:Nat)(r:AV):Prop:=∃W,r=rows W/\mN n W
set_option maxHeartbeats 1000000 in
theorem VR(p:Int)(hp:1<=p/\p<=10)(n:Nat)(hn:n<=10)(a b:List (List Int))(ha:mN n a)(hb:mN n b):∀nx,AC Tryz.prog 261 nx BM [.i .i64 p,rows a,rows b,.i .i64 n] (λBB H' r=>∃r2,Fz H' (JI nx H') r r2/\A80 n r2):=by
 have Sp:=ha.l
 have P8:=hb.l
 intro nx
 refine BS AA Tryz.func261 rfl A7 Tryz.ntmps261 Tryz.results261 (λcX=>?_)
 refine DK ?_;refine DK ?_;refine AW.seq λN1 B2=>?_;refine DK ?_;apply AW.block;refine A8 (α:=Nat×HP×AV×List (List Int)) (λx=>sl 30 [(0,.i .i64 p),(1,rows a),(2,rows b),(3,.i .i64 n),(9,x.2.2.1),(10,.i .i64 x.1)]) (λx=>x.2.1) (λx m=>(x.1<=n/\nx+3<=m)/\LC x.2.1 nx m x.2.2.1 (x.2.2.2.map ints)/\x.2.2.2.length=x.1/\∀w∈x.2.2.2,w.length=n/\Mf w) (λx=>n-x.1) ((0,AT BM (nx+1) (some []),.h (nx+1) 0 0,[])) ?_ ?_ (λ_ _ h=>h) ?_
 ·exact⟨⟨AB,A9⟩,LC.mk (A4 _ _ _) rfl A0 A9,rfl,AB⟩
 ·simp(disch:=omega) [AN,AO,sl,AR,ints,rows,A6,AR,rows,BN]<;>omega
 skip
 rintro⟨i,G,L,W⟩ m ⟨⟨hi,hm⟩,hL,hWl,hW⟩
 refine AG ?_;dsimp only at hi hm hL hWl hW ⊢
 have MA:=hL.one
 have IJ:=hL.len
 refine AW.seq λN2 B7=>?_;refine DK ?_;refine AW.cond rfl ?_ ?_<;>intro h1<;>try simp only[cn]at h1
 ·have hai:=ha.at i;apply AW.skip;apply B7;refine AW.seq λN3 BC=>?_;apply AW.block;refine TA ?_;refine(ZG p hp (a.getD i []) b n A0 hai.1 (λk=>(hb.at k).1) A0 A0 (λk=>by have:=(hb.at k).2;omega) _ _).AS ?_
  rintro m1 H1 r1 T6 ⟨⟨w,rfl,nT,hws⟩,CD⟩;have hL1:=hL.AJ (H':=H1) (λj h1 h2=>CD j A0);try simp-dsimp-implicitDefEqProofs(disch:=(first|omega|((repeat refine LC.AT A0 ?_);assumption))) only[go_sem,MA,IJ,BP (a:=nx) (b:=m) (L:=L) (cs:=W.map ints)]
  apply BC;refine AI (λG3 CB=>?_);dsimp only at CB;refine TA ?_;refine⟨(i+1,G3,.h (m+4+10) 0 (W.length+1),W++[w]),?_,λ_ _ h=>h,?_,?_⟩
  ·simp(disch:=omega) [AN,AO,sl,AR,rows]<;>omega
  ·have GA:LC G3 nx (m1+3) (.h (m+4+10) 0 (W.length+1)) ((W++[w]).map ints):=LC.mk (by rw[<-CB,List.map_append];simp(disch:=omega)only[A1,A4];rfl) AB A0 A0;have hW2:∀z∈W++[w],z.length=n/\Mf z:=VO hW ⟨nT,hws⟩;first|exact⟨⟨A9,A9⟩,GA,by simp;omega,hW2⟩|exact⟨A9,GA,by simp;omega,hW2⟩
  first|omega|(simp only;omega)
 apply AW.exit;apply B2;refine DK ?_;refine AH ?_;exact⟨_,hL.fzR (Nat.le_refl _),W,rfl,A0,hW⟩
theorem VS(p:Int)(hp:1<=p/\p<=10)(n:Nat)(hn:n<=10)(a b:List (List Int))(ha:mN n a)(hb:mN n b)(nx:Nat)(H:HP):AC Tryz.prog 261 nx H [.i .i64 p,rows a,rows b,.i .i64 n] (zK nx H (A80 n)):=SS (VR p hp n hn a b ha hb nx) H
theorem Jh{cX:Ctx}{P:Program}{c:Code}{s:St}{K:Exit->St->Prop}{a b:Nat}(k:Nat)(L:AV)(cs:List AV)(hk:s.t[k]? =some L)(hL:LC s.H a b L cs)
    (hs:AW cX P c ⟨s.t.set k (.v cs.length cs),dl s.H L,s.nx⟩ K):AW cX P c s K:=by
  rcases hL with ⟨rfl,rfl⟩|⟨id,rfl,hc,_,_⟩
  · refine AW.fz (s':=⟨s.t.set k (.v 0 []),s.H,s.nx⟩) ⟨UI hk .nl,?_,Nat.le_refl _⟩ hs;intro id CT h;exact⟨CT,h,rfl,λq x y h1 h2=>by rw[h1]at h2;cases h2;exact .refl _⟩
  exact CZ k id cs.length cs hk hc rfl hs
structure U0(N:Nat)(os:List Int)(X:List (List Int))(Y:List (List (List Int))):Prop where
  o:os.length<=N
  p:X.length=os.length
  c:Y.length=os.length
  r:∀k,k<os.length->(Y.getD k []).length=os.length-1-k
  pl:∀x∈X,x.length<=6*N
  cl:∀y∈Y,∀x∈y,x.length<=6*N
  ob:∀x∈os,-1000<=x/\x<=1000
theorem U0.more{N M:Nat}{os:List Int}{X:List (List Int)}{Y:List (List (List Int))}(h:U0 N os X Y)(hm:N<=M):U0 M os X Y:=⟨by have:=h.o;omega,h.p,h.c,h.r,λx hx=>by have:=h.pl x hx;omega,λy hy x hx=>by have:=h.cl y hy x hx;omega,h.ob⟩
theorem U0.nil:U0 0 [] [] []:=⟨AB,rfl,rfl,AB,AB,AB,AB⟩
theorem GU{α:Type}{p:α->Prop}{X:List α}{d:α}(h:∀x∈X,p x)(hd:p d)(k:Nat):p (X.getD k d):=by
  by_cases hk:k<X.length
  · rw[List.getD_eq_getElem?_getD,List.getElem?_eq_getElem hk];exact h _ (List.getElem_mem hk)
  rw[List.getD_eq_getElem?_getD,List.getElem?_eq_none A0];exact hd
theorem U0.row{N:Nat}{os:List Int}{X:List (List Int)}{Y:List (List (List Int))}(h:U0 N os X Y)(k:Nat):(X.getD k []).length<=6*N:=GU h.pl AB k
theorem U0.A81{N:Nat}{os:List Int}{X:List (List Int)}{Y:List (List (List Int))}(h:U0 N os X Y)(k l:Nat):((Y.getD k []).getD l []).length<=6*N:=
  GU (p:=λx:List Int=>x.length<=6*N) (GU (p:=λy:List (List Int)=>∀x∈y,x.length<=6*N) h.cl AB k) AB l
theorem U0.QE{N k:Nat}{os:List Int}{X:List (List Int)}{Y:List (List (List Int))}{w:List Int}(h:U0 N os X Y)(hw:w.length<=6*N):U0 N os (X.set k w) Y:=⟨h.o,by rw[List.length_set];exact h.p,h.c,h.r,aZ h.pl hw,h.cl,h.ob⟩
theorem U0.V9{N k l:Nat}{os:List Int}{X:List (List Int)}{Y:List (List (List Int))}{w:List Int}(h:U0 N os X Y)(hw:w.length<=6*N):U0 N os X (Y.set k ((Y.getD k []).set l w)):=by
  refine⟨h.o,h.p,by rw[List.length_set];exact h.c,λj hj=>?_,h.pl,aZ h.cl (aZ (GU (p:=λy:List (List Int)=>∀x∈y,x.length<=6*N) h.cl AB k) hw),h.ob⟩;by_cases e:j=k
  · subst e;have h1:=h.c;have h2:=h.r j hj;rw[show(Y.set j ((Y.getD j []).set l w)).getD j []=(Y.getD j []).set l w by simp[show j<Y.length by omega],List.length_set];exact h2
  rw[show(Y.set k ((Y.getD k []).set l w)).getD j []=Y.getD j [] by rw[List.getD_eq_getElem?_getD,List.getElem?_set_ne A0,<-List.getD_eq_getElem?_getD]];exact h.r j hj
theorem Vv{N:Nat}{os:List Int}(h:os.length<=N)(hN:N<=64)(hb:∀x∈os,-1000<=x/\x<=1000):U0 N os (P3 os.length) (KC os.length):=by
  refine⟨h,aY _,aX _,λk hk=>?_,λx hx=>?_,λy hy x hx=>?_,hb⟩
  · rw[show(KC os.length).getD k []=zY os.length k by simp[KC,hk],VM];omega
  · rw[(List.mem_replicate.1 hx).2];simp;omega
  obtain⟨i,_,rfl⟩:=List.mem_map.1 hy;obtain⟨j,_,rfl⟩:=List.mem_map.1 hx;rw[NT];omega
theorem C7(os:List Int)(hn:os.length<=1000)(nx:Nat){H:HP}{xs:List AV}(hv:ZY H xs [ints os]):AC Tryz.prog 174 nx H xs (rgK nx H os (P3 os.length) (KC os.length)):=AC.rg (I5 os hn nx) hv
theorem LH(n j:Nat)(hn:n<=1048576)(hj:j<n):BI Tryz.prog 116 [.i .i64 n,.i .i64 j] (ints (TZ n j)):=(LG n j hn hj).pure
def ZH(N:Nat)(r:AV):Prop:=∃os X Y,r=AP os X Y/\U0 N os X Y
def A82(N:Nat)(r:AV):Prop:=∃os X Y e,r= .t [AP os X Y,.i .i64 e]/\U0 N os X Y
theorem Sq{H H2:HP}:Fz H H2 (.g [.nl,.nl,.nl]) (AP [] [] []):= .g _ _ rfl λk x y hx hy=>by
  match k,hx,hy with
  |0,hx,hy=>cases hx;cases hy;exact .nl
  |1,hx,hy=>cases hx;cases hy;exact .nl
  |2,hx,hy=>cases hx;cases hy;exact .nl
structure HA(N lo m bx:Nat)(os:List Int)(P B:AV)(bc:List AV)(X:List (List Int))(Y:List (List (List Int)))(G:HP):Prop where
  cl:G bx=some [ints os,P,B]
  rg:wL lo m P B X Y bc G
  sh:U0 N os X Y
  lt:bx<lo
theorem HA.AJ{N lo m m' bx:Nat}{os:List Int}{P B:AV}{bc:List AV}{X:List (List Int)}{Y:List (List (List Int))}{G G':HP}(h:HA N lo m bx os P B bc X Y G)(hk:∀i,i<m->G' i=G i)(Xm:lo<=m)(hm:m<=m'):HA N lo m' bx os P B bc X Y G':=
  ⟨(hk bx (by have:=h.lt;omega)).trans h.cl,h.rg.AJ (λi _ hi=>hk i hi) (Nat.le_refl _) hm,h.sh,h.lt⟩
theorem HA.MR{N lo m bx:Nat}{os:List Int}{P B:AV}{bc:List AV}{X:List (List Int)}{Y:List (List (List Int))}{G:HP}(h:HA N lo m bx os P B bc X Y G):one P=true/\one B=true:=⟨h.rg.p.one,h.rg.b.one⟩
theorem HA.QE{N lo m bx k:Nat}{os:List Int}{P B:AV}{bc:List AV}{X:List (List Int)}{Y:List (List (List Int))}{G:HP}(h:HA N lo m bx os P B bc X Y G)(hk:k<os.length):
    ∃p,P= .h p 0 os.length/\G bx=some [ints os,.h p 0 os.length,B]/\G p=some (X.map ints)/\(X.map ints).length=os.length/\(lo<=p/\p<m)/\∀(w:List Int) (m':Nat),w.length<=6*N->m<=m'->HA N lo m' bx os P B bc (X.set k w) Y (AT G p (some (B3 (X.map ints) k [ints w]))):=by
  obtain⟨h1,h2,h3,h4⟩:=h;obtain⟨p,e,g1,g2,g3⟩:=h2.QE (k:=k) (by rw[h3.p];exact hk);rw[h3.p]at e;refine⟨p,e,by rw[h1,e],g1,by rw[List.length_map,h3.p],g2,λw m' hw hm=>⟨?_,g3 _ w lo m' (A4 _ _ _) (λj _ _ hj=>A1 _ _ hj) (Nat.le_refl _) hm,h3.QE hw,h4⟩⟩;rw[A1 _ _ A0,h1]
theorem HA.V9{N lo m bx k l:Nat}{os:List Int}{P B:AV}{bc:List AV}{X:List (List Int)}{Y:List (List (List Int))}{G:HP}(h:HA N lo m bx os P B bc X Y G)(hk:k<os.length)(hl:l<os.length-1-k):
    ∃ b q,B= .h b 0 os.length/\G bx=some [ints os,P,.h b 0 os.length]/\G b=some bc/\bc.length=os.length/\(lo<=b/\b<m)/\bc.getD k .j= .h q 0 (os.length-1-k)/\G q=some ((Y.getD k []).map ints)/\((Y.getD k []).map ints).length=os.length-1-k/\(lo<=q/\q<m)/\b≠q/\
      ∀(w:List Int) (m':Nat),w.length<=6*N->m<=m'->HA N lo m' bx os P B bc X (Y.set k ((Y.getD k []).set l w)) (AT G q (some (B3 ((Y.getD k []).map ints) l [ints w]))):=by
  obtain⟨h1,h2,h3,h4⟩:=h;have hr:=h3.r k hk;obtain⟨b,q,e,g1,g2,_,g4,g5,g6,g7,g8⟩:=h2.V9 (k:=k) (l:=l) (by rw[h3.c];exact hk) A0;rw[h3.c]at e;rw[hr]at g4;refine⟨b,q,e,by rw[h1,e],g1,by rw[h2.bl,h3.c],g2,g4,g5,by rw[List.length_map,hr],g6,g7,λw m' hw hm=>⟨?_,g8 _ w lo m' (A4 _ _ _) (λj _ _ hj=>A1 _ _ hj) (Nat.le_refl _) hm,h3.V9 hw,h4⟩⟩;rw[A1 _ _ A0,h1]
theorem HA.start{N nx m bx:Nat}{os:List Int}{r:AV}{G0 H1:HP}(h:rgK nx G0 os (P3 os.length) (KC os.length) m H1 r)(ho:os.length<=N)(hN:N<=64)(hb:∀x∈os,-1000<=x/\x<=1000)(CL:bx<nx):
    ∃P B bc,r= .g [ints os,P,B]/\one P=true/\one B=true/\(∀i,i<nx->H1 i=G0 i)/\HA N nx m bx os P B bc (P3 os.length) (KC os.length) (AT H1 bx (some [ints os,P,B])):=by
  obtain⟨P,B,bc,e,h1,h2⟩:=h;exact⟨P,B,bc,e,h1.p.one,h1.b.one,h2,A4 _ _ _,h1.AJ (λj _ _=>A1 _ _ A0) (Nat.le_refl _) (Nat.le_refl _),Vv ho hN hb,CL⟩
theorem HA.fz{N lo m bx n:Nat}{os:List Int}{P B:AV}{bc:List AV}{X:List (List Int)}{Y:List (List (List Int))}{G G':HP}(h:HA N lo m bx os P B bc X Y G)(hk:∀i,lo<=i->G' i=G i)(hn:n<=lo):Fz G' (JI n G') (.g [ints os,P,B]) (AP os X Y):=(h.rg.AJ (λi hi _=>hk i hi) (Nat.le_refl _) (Nat.le_refl _)).fz hn
set_option maxHeartbeats 2000000 in
theorem LS(n:Int)(h0:1<=n)(h6:n<=64):∀nx,AC Tryz.prog 222 nx BM [.i .i64 n] (λBB H' r=>∃r2,Fz H' (JI nx H') r r2/\A82 6 r2):=by
 intro nx
 refine BS AA Tryz.func222 rfl A7 Tryz.ntmps222 Tryz.results222 (λcX=>?_)
 refine HR ?_;refine AW.seq λN1 B2=>?_;refine sQ λN hN=>?_;simp-dsimp-implicitDefEqProofs(maxSteps:=800000) (disch:=omega)only[go_sem,ints,AP];refine AC.pure (.of (GO n 1 729)) ?_;(try simp-dsimp-implicitDefEqProofs(maxSteps:=800000) (disch:=omega)only[go_sem,ints,AP]);apply hN;refine AW.cond rfl ?_ ?_<;>intro h1<;>try simp only[cn]at h1
 ·omega
 apply AW.skip;apply B2;refine sQ λN hN=>?_;refine Q3 ?_;refine(FG n h0 A0 _ _).AS ?_
 rintro m1 H1 r1 T6 ⟨⟨fs,b,rfl,hp,fW⟩,eC⟩
 have xI:H1 nx=some [.nl,.nl,.nl]:=(eC nx A0).trans (A4 _ _ _)
 have Mb:=(VP hp A0).2 h6
 refine TB ?_
 apply hN;refine AW.seq λN2 B7=>?_;refine HR ?_;refine AW.cond rfl ?_ ?_<;>intro h2<;>try simp only[cn]at h2
 ·refine KS xI ?_;refine AH ?_;exact⟨_,Fz.t2 Sq,[],[],[],_,rfl,U0.nil.more A0⟩
 apply AW.skip;apply B7;refine AW.seq λN3 BC=>?_;refine HR ?_;refine AW.cond rfl ?_ ?_<;>intro h3<;>try simp only[cn]at h3
 ·omega
 apply AW.skip;apply BC;refine sQ λN hN=>?_;refine Q3 ?_;refine(C7 fs A0 _ (.cons (.refl _) .nil)).AS ?_
 intro m2 H2 r2 LN sZ
 obtain⟨P,B,bc,rfl,O2,O3,Ji,CL⟩:=HA.start (bx:=m1+2+3+2) sZ Mb A0 (λx hx=>by have:=fW x hx;omega) A0
 refine jT O2 O3 ?_
 apply hN;refine AW.seq λN4 CF=>?_;refine AI (λG0 C9=>?_);dsimp only at C9
 have OR:HA 6 (m1+2+3+4) m2 (m1+2+3+2) fs P B bc (P3 fs.length) (KC fs.length) G0:=by rw[<-C9];exact CL
 have h00:G0 nx=some [.nl,.nl,.nl]:=by rw[<-C9,A1 _ _ A0];exact(Ji nx A0).trans xI
 refine HR ?_;apply AW.block;refine A8 (α:=Nat×HP×List (List Int)×List (List (List Int))) (λx=>sl 43 [(2,.q nx 0),(3,.i .i64 0),(4,ints fs),(6,.q (m1+2+3+2) 0),(7,.i .i64 x.1)]) (λx=>x.2.1) (λx m=>(x.1<=fs.length/\m2<=m)/\x.2.1 nx=some [.nl,.nl,.nl]/\HA 6 (m1+2+3+4) m (m1+2+3+2) fs P B bc x.2.2.1 x.2.2.2 x.2.1) (λx=>fs.length-x.1) ((0,G0,P3 fs.length,KC fs.length)) ?_ ?_ (λ_ _ h=>h) ?_
 ·exact⟨⟨AB,A9⟩,h00,OR.AJ (λ_ _=>rfl) A0 A9⟩
 ·simp(disch:=omega) [AN,AO,sl,AR,ints,rows,A6,AR,AP,ints]<;>omega
 skip
 rintro⟨i,G,X,Y⟩ m ⟨⟨hi,hm⟩,C9,CL⟩
 refine AG ?_;dsimp only at hi hm C9 CL ⊢
 refine AW.seq λN5 DL=>?_;refine HR ?_;refine AW.cond rfl ?_ ?_<;>intro h4<;>try simp only[cn]at h4
 ·obtain⟨p,Sr,LQ,UP,TF,Ay,EP⟩:=CL.QE (k:=i) A0;have C4:=CL.lt;apply AW.skip;apply DL;refine AW.seq λN6 FR=>?_;apply AW.block;refine AM AA A7 9 A7 ?_
  refine Dv LQ UP TF ?_;refine⟨_,.of (LH fs.length (i+1) A0 A0),?_⟩;refine kA LQ UP TF ?_
  apply FR;refine AI (λG3 CB=>?_);dsimp only at CB;refine WO ?_;refine⟨(i+1,G3,X.set i (TZ fs.length (i+1)),Y),?_,λ_ _ h=>h,?_,?_⟩
  ·simp(disch:=omega) [AN,AO,sl,AR,ints,rows,A6,AR,AP,ints]<;>omega
  ·have SG:HA 6 (m1+2+3+4) (m+5+10+3) (m1+2+3+2) fs P B bc (X.set i (TZ fs.length (i+1))) Y G3:=by rw[<-CB];exact EP _ _ (by rw[NT];omega) A0
   have QL:G3 nx=some [.nl,.nl,.nl]:=by rw[<-CB,A1 _ _ A0];exact C9
   first|exact⟨⟨A9,A9⟩,QL,SG⟩|exact⟨A9,QL,SG⟩
  first|omega|(simp only;omega)
 have JZ:=CL.cl
 have C4:=CL.lt
 apply AW.exit;apply CF;refine sQ λN hN=>?_;simp-dsimp-implicitDefEqProofs(maxSteps:=800000) (disch:=omega)only[go_sem,ints,AP,JZ,C9,CL.MR.1,CL.MR.2];apply hN;refine AH ?_;exact⟨_,Fz.t2 (CL.fz (λi hi=>A1 _ _ A0) A0),fs,X,Y,_,rfl,CL.sh⟩
theorem LU(n:Int)(h0:1<=n)(h6:n<=64)(nx:Nat)(H:HP):AC Tryz.prog 222 nx H [.i .i64 n] (zK nx H (A82 6)):=SS (LS n h0 h6 nx) H
theorem XO(a b:List Int):List.take a.length (D3 a.length λk=>a.getD k 0)++b.map (AV.i .i64)=(a++b).map (.i .i64):=by
  rw[<-O9,List.take_of_length_le AB,List.map_append]
theorem NV(os:List Int)(k:Nat)(x:Int)(hn:os.length<=1000)(hk:k<=os.length)(ho:∀i,i<os.length->2<=os.getD i 0/\os.getD i 0<=1000)(hx:0<=x/\x<=1000000):BI Tryz.prog 259 [ints os,.i .i64 k,.i .i64 x] (ints (Vt os k x)):=(XN os k x hn hk ho hx).pure
theorem F5(b:Nat)(v:List Int)(e:Nat)(hb:b<=1000)(hv:v.length<=1000)(he:e<=1000):BI Tryz.prog 227 [.i .i64 b,ints v,.i .i64 e] (ints (qI b v e)):=(ZC b v e hb hv he).pure
set_option maxHeartbeats 4000000 in
theorem eD(n q r0 s0:Int)(hn:1<=n/\n<=64)(hq:1<=q/\q<=64)(hr:0<=r0/\r0<=64)(hs:0<=s0/\s0<=64):∀nx,AC Tryz.prog 223 nx BM [.i .i64 n,.i .i64 q,.i .i64 r0,.i .i64 s0] (λBB H' r=>∃r2,Fz H' (JI nx H') r r2/\ZH 12 r2):=by
 have hz:¬q=0:=A0
 intro nx
 refine BS AA Tryz.func223 rfl A7 Tryz.ntmps223 Tryz.results223 (λcX=>?_)
 refine KS hz ?_;refine sQ λN hN=>?_;refine WQ hz ?_;refine(FG n hn.1 A0 _ _).AS ?_
 rintro m1 H1 r1 T6 ⟨⟨SU,b1,rfl,UP,A83⟩,eC⟩
 have AE8:=(VP UP A0).2 hn.2
 refine TB ?_
 apply hN;refine sQ λN hN=>?_;refine WQ hz ?_;refine(FG q hq.1 A0 _ _).AS ?_
 rintro m2 H2 r2 LN ⟨⟨fs2,b2,rfl,TF,Sn⟩,Ji⟩
 have AE9:=(VP TF A0).2 hq.2
 have lL:H2 nx=some [.nl,.nl,.nl]:=(Ji nx A0).trans ((eC nx A0).trans (A4 _ _ _))
 refine TB ?_
 apply hN;refine sQ λN hN=>?_;refine WQ hz ?_;refine(CJ SU A0 _ _).AS ?_
 rintro m3 H3 r3 W1 ⟨Lo,rfl,jG,WC,rfl⟩
 refine WQ hz ?_
 apply hN;obtain⟨os,U2⟩:∃os,SU++fs2=os:=⟨_,rfl⟩
 have mE:os.length=SU.length+fs2.length:=by rw[<-U2,List.length_append]
 have bV:∀x∈os,2<=x/\x<=7:=λx hx=>by
  rw[<-U2]at hx;rcases List.mem_append.1 hx with h|h
  ·exact A83 x h
  exact Sn x h
 have bM:∀i,i<os.length->2<=os.getD i 0/\os.getD i 0<=1000:=λi hi=>by
  rw[List.getD_eq_getElem?_getD,List.getElem?_eq_getElem hi];have:=bV _ (List.getElem_mem hi);simp;omega
 refine CZ 13 (m2+3) (SU.length+fs2.length) (os.map (.i .i64)) rfl (by dsimp only;rw[A4,XO,U2]) (by rw[List.length_map,mE]) ?_
 rw[<-mE]
 refine AI (λG0 C9=>?_);dsimp only at C9
 have h0n:G0 nx=some [.nl,.nl,.nl]:=by rw[<-C9];simp(disch:=omega)only[A1];exact lL
 refine AG ?_;refine sQ λN hN=>?_;refine WQ hz ?_;refine(C7 os A0 _ (.cons (.refl _) .nil)).AS ?_
 intro m4 H4 r4 Bd sZ
 obtain⟨P,B,bc,rfl,O2,O3,NW,CL⟩:=HA.start (N:=12) (bx:=m3+2) sZ A0 A0 (λx hx=>by have:=bV x hx;omega) A0
 refine jT O2 O3 ?_
 apply hN;refine KS hz ?_;refine AW.seq λN1 B2=>?_;refine AI (λG1 I8=>?_);dsimp only at I8
 have OR:HA 12 (m3+4) m4 (m3+2) os P B bc (P3 os.length) (KC os.length) G1:=by rw[<-I8];exact CL
 have VZ:G1 nx=some [.nl,.nl,.nl]:=by rw[<-I8,A1 _ _ A0];exact(NW nx A0).trans h0n
 refine KS hz ?_;apply AW.block;refine A8 (α:=Nat×HP×List (List Int)) (λx=>sl 106 [(1,.i .i64 q),(2,.i .i64 r0),(3,.i .i64 s0),(8,.q nx 0),(9,ints SU),(13,ints os),(14,.q (m3+2) 0),(15,.i .i64 SU.length),(16,.i .i64 x.1)]) (λx=>x.2.1) (λx m=>(x.1<=os.length/\m4<=m)/\x.2.1 nx=some [.nl,.nl,.nl]/\HA 12 (m3+4) m (m3+2) os P B bc x.2.2 (KC os.length) x.2.1) (λx=>os.length-x.1) ((0,G1,P3 os.length)) ?_ ?_ (λ_ _ h=>h) ?_
 ·exact⟨⟨AB,A9⟩,VZ,OR.AJ (λ_ _=>rfl) A0 A9⟩
 ·simp(disch:=omega) [AN,AO,sl,AR,ints,rows,A6,AR,AP,ints,hz]<;>omega
 skip
 rintro⟨i,G,X⟩ m ⟨⟨hi,hm⟩,C9,CL⟩
 refine AG ?_;dsimp only at hi hm C9 CL ⊢
 have C4:=CL.lt
 refine AW.seq λN2 B7=>?_;refine KS hz ?_;refine AW.cond rfl ?_ ?_<;>intro h1<;>try simp only[cn]at h1
 ·obtain⟨p,Sr,LQ,UP,TF,Ay,EP⟩:=CL.QE (k:=i) A0;apply AW.skip;apply B7;refine AW.seq λN3 BC=>?_;apply AW.block;refine KS hz ?_;refine AW.cond rfl ?_ ?_<;>intro h2<;>try simp only[cn]at h2
  ·refine AM AA A7 9 A7 ?_;(try simp-dsimp-implicitDefEqProofs(maxSteps:=800000) (disch:=omega)only[go_sem,List.drop_nil,List.drop_succ_cons,List.drop_zero,List.take_nil,List.take_succ_cons,List.take_zero,BW,BE,BF,ints,AP,AR,hz,LQ,UP,TF]);refine⟨_,.of (LH os.length (i+1) A0 A0),?_⟩;refine kA LQ UP TF ?_
   apply BC;refine AI (λG3 CB=>?_);dsimp only at CB;apply rQ;simp-dsimp-implicitDefEqProofs(maxSteps:=800000) (disch:=omega)only[go_sem,ints,AP,hz];refine⟨(i+1,G3,X.set i (TZ os.length (i+1))),?_,λ_ _ h=>h,?_,?_⟩
   ·simp(disch:=omega) [AN,AO,sl,AR,ints,rows,A6,AR,AP,ints,hz]<;>omega
   ·have SG:HA 12 (m3+4) (m+5+4+10+3) (m3+2) os P B bc (X.set i (TZ os.length (i+1))) (KC os.length) G3:=by rw[<-CB];exact EP _ _ (by rw[NT];omega) A0
    have QL:G3 nx=some [.nl,.nl,.nl]:=by rw[<-CB,A1 _ _ A0];exact C9
    first|exact⟨⟨A9,A9⟩,QL,SG⟩|exact⟨A9,QL,SG⟩
   first|omega|(simp only;omega)
  apply AW.skip;apply BC;refine AI (λG3 CB=>?_);dsimp only at CB;apply rQ;simp-dsimp-implicitDefEqProofs(maxSteps:=800000) (disch:=omega)only[go_sem,ints,AP,hz];refine⟨(i+1,G3,X),?_,λ_ _ h=>h,?_,?_⟩
  ·simp(disch:=omega) [AN,AO,sl,AR,ints,rows,A6,AR,AP,ints,hz]<;>omega
  ·rw[CB]at C9 CL;have SG:=CL.AJ (m':=m+5+4+3) (λ_ _=>rfl) A0 A0;first|exact⟨⟨A9,A9⟩,C9,SG⟩|exact⟨A9,C9,SG⟩
  first|omega|(simp only;omega)
 apply AW.exit;apply B2;refine AW.seq λN4 CF=>?_;refine KS hz ?_;refine AW.cond rfl ?_ ?_<;>intro h3<;>try simp only[cn]at h3
 ·obtain⟨p,Sr,LQ,UP,TF,Ay,EP⟩:=CL.QE (k:=SU.length-1) A0;have ek:((SU.length:Int)-1).toNat=SU.length-1:=A0;refine AM AA A7 9 A7 ?_;(try simp-dsimp-implicitDefEqProofs(maxSteps:=800000) (disch:=omega)only[go_sem,List.drop_nil,List.drop_succ_cons,List.drop_zero,List.take_nil,List.take_succ_cons,List.take_zero,BW,BE,BF,ints,AP,AR,hz,LQ,UP,TF,ek]);refine⟨_,.of (NV os SU.length s0 A0 A0 bM A0),?_⟩;(try simp-dsimp-implicitDefEqProofs(maxSteps:=800000) (disch:=omega)only[go_sem,ints,AP,LQ,UP,TF,ek])
  apply CF;refine AI (λG3 CB=>?_);dsimp only at CB;refine KS hz ?_;refine AW.seq λN5 DL=>?_;refine KS hz ?_;apply AW.block;obtain⟨X1,hX1⟩:∃X1,X.set (SU.length-1) (Vt os SU.length s0)=X1:=⟨_,rfl⟩
  obtain⟨mm,iZ⟩:∃mm,m+5+2+10+4+1=mm:=⟨_,rfl⟩;have mG:HA 12 (m3+4) mm (m3+2) os P B bc X1 (KC os.length) G3:=by rw[<-CB,<-hX1];exact EP _ _ (by rw[lK];omega) A0
  have QL:G3 nx=some [.nl,.nl,.nl]:=by rw[<-CB,A1 _ _ A0];exact C9
  refine A8 (α:=Nat×HP×List (List (List Int))×Int) (λx=>sl 106 [(1,.i .i64 q),(8,.q nx 0),(9,ints SU),(13,ints os),(14,.q (m3+2) 0),(15,.i .i64 SU.length),(17,.i .i64 x.2.2.2),(18,.i .i64 x.1)]) (λx=>x.2.1) (λx m=>(x.1<=SU.length/\mm<=m)/\x.2.1 nx=some [.nl,.nl,.nl]/\HA 12 (m3+4) m (m3+2) os P B bc X1 x.2.2.1 x.2.1/\0<=x.2.2.2/\x.2.2.2<q) (λx=>SU.length-x.1) ((0,G3,KC os.length,r0.tmod q)) ?_ ?_ (λ_ _ h=>h) ?_
  ·exact⟨⟨AB,A9⟩,QL,mG.AJ (λ_ _=>rfl) A0 A9,pH hr.1 hq.1⟩
  ·simp(disch:=omega) [AN,AO,sl,AR,ints,rows,A6,AR,AP,ints,hz]<;>omega
  skip
  rintro⟨i,G,Y,pw⟩ m ⟨⟨hi,hm⟩,C9,CL,tZ⟩;refine AG ?_;dsimp only at hi hm C9 CL tZ ⊢;refine AW.seq λN6 FR=>?_;refine KS hz ?_;refine AW.cond rfl ?_ ?_<;>intro h4<;>try simp only[cn]at h4
  ·apply AW.skip;apply FR;refine AW.seq λN7 MV=>?_;apply AW.block;refine AW.seq λN8 OB=>?_;refine KS hz ?_;apply AW.block;refine A8 (α:=Nat×HP×List (List (List Int))) (λx=>sl 106 [(1,.i .i64 q),(8,.q nx 0),(9,ints SU),(13,ints os),(14,.q (m3+2) 0),(15,.i .i64 SU.length),(17,.i .i64 pw),(18,.i .i64 i),(19,.i .i64 ((SU.length+x.1:Nat):Int))]) (λx=>x.2.1) (λx m=>(SU.length+x.1<=os.length/\mm<=m)/\x.2.1 nx=some [.nl,.nl,.nl]/\HA 12 (m3+4) m (m3+2) os P B bc X1 x.2.2 x.2.1) (λx=>os.length-x.1) ((0,G,Y)) ?_ ?_ (λ_ _ h=>h) ?_
   ·exact⟨⟨by simp;omega,A9⟩,C9,CL.AJ (λ_ _=>rfl) A0 A9⟩
   ·simp(disch:=omega) [AN,AO,sl,AR,ints,rows,A6,AR,AP,ints,hz]<;>omega
   skip
   rintro⟨d,G,Y⟩ m ⟨⟨hd,hm⟩,C9,CL⟩;refine AG ?_;dsimp only at hd hm C9 CL ⊢;have C4:=CL.lt;refine AW.seq λN9 SC=>?_;refine KS hz ?_;refine AW.cond rfl ?_ ?_<;>intro h5<;>try simp only[cn]at h5
   ·obtain⟨b,qq,hBe,JZ,LZ,PJ,SG,O0,KY,JT,YS,Lz,EP⟩:=CL.V9 (k:=i) (l:=SU.length+d-i-1) A0 A0;have ek:(((SU.length+d:Nat):Int)-i-1).toNat=SU.length+d-i-1:=A0;apply AW.skip;apply SC;refine AW.seq λAm IQ=>?_;apply AW.block;refine AM AA A7 14 A7 ?_
    (try simp-dsimp-implicitDefEqProofs(maxSteps:=800000) (disch:=omega)only[go_sem,List.drop_nil,List.drop_succ_cons,List.drop_zero,List.take_nil,List.take_succ_cons,List.take_zero,BW,BE,BF,ints,AP,AR,hz,JZ,LZ,PJ,O0,KY,JT,ek]);refine⟨_,.of (NV os (SU.length+d) pw A0 A0 bM A0),?_⟩;(try simp-dsimp-implicitDefEqProofs(maxSteps:=800000) (disch:=omega)only[go_sem,ints,AP,JZ,LZ,PJ,O0,KY,JT,ek])
    apply IQ;refine AI (λG5 EU=>?_);dsimp only at EU;apply rQ;simp-dsimp-implicitDefEqProofs(maxSteps:=800000) (disch:=omega)only[go_sem,ints,AP,hz];refine⟨(d+1,G5,Y.set i ((Y.getD i []).set (SU.length+d-i-1) (Vt os (SU.length+d) pw))),?_,λ_ _ h=>h,?_,?_⟩
    ·simp(disch:=omega) [AN,AO,sl,AR,ints]<;>omega
    ·have VT:HA 12 (m3+4) (m+4+15+3) (m3+2) os P B bc X1 (Y.set i ((Y.getD i []).set (SU.length+d-i-1) (Vt os (SU.length+d) pw))) G5:=by rw[<-EU];exact EP _ _ (by rw[lK];omega) A0
     have eE:G5 nx=some [.nl,.nl,.nl]:=by rw[<-EU,A1 _ _ A0];exact C9
     first|exact⟨⟨A9,A9⟩,eE,VT⟩|exact⟨A9,eE,VT⟩
    first|omega|(simp only;omega)
   have T4:i<SU.length:=A0;have hfi:=GU (p:=λx:Int=>0<=x/\x<=7) (X:=SU) (d:=0) (λx hx=>by have:=A83 x hx;omega) A0 i;apply AW.exit;apply OB;apply rQ;simp-dsimp-implicitDefEqProofs(maxSteps:=800000) (disch:=omega)only[go_sem,AL,ints,AP,hz];refine(ZE pw (SU.getD i 0) q A0 A0 A0 _ _).AS ?_;rintro m7 H7 r7 hm7 ⟨⟨x7,rfl,hx7⟩,pI⟩;have S1:=CL.AJ (G':=H7) (m':=m7+3) (λj hj=>pI j A0) A0 A0;have h70:=(pI nx A0).trans C9;refine WQ hz ?_
   apply MV;apply rQ;simp-dsimp-implicitDefEqProofs(maxSteps:=800000) (disch:=omega)only[go_sem,ints,AP,hz];refine⟨(i+1,H7,Y,x7),?_,λ_ _ h=>h,?_,?_⟩
   ·simp(disch:=omega) [AN,AO,sl,AR,ints,rows,A6,AR,AP,ints,hz]<;>omega
   ·first|exact⟨⟨A9,A9⟩,h70,S1,hx7⟩|exact⟨A9,h70,S1,hx7⟩
   first|omega|(simp only;omega)
  apply AW.exit;apply DL;first|rw[CB]at CL C9|skip
  have JZ:=CL.cl;have C4:=CL.lt;refine sQ λN hN=>?_;simp-dsimp-implicitDefEqProofs(maxSteps:=800000) (disch:=omega)only[go_sem,ints,AP,hz,JZ,C9,CL.MR.1,CL.MR.2];apply hN;refine AH ?_;exact⟨_,CL.fz (λi hi=>A1 _ _ A0) A0,os,_,_,rfl,CL.sh⟩
 have LP:SU.length=0:=A0
 apply AW.skip;apply CF;refine AI (λG3 CB=>?_);dsimp only at CB
 refine KS hz ?_;refine AW.seq λDu JO=>?_;refine KS hz ?_;apply AW.block;refine Dg ?_;refine AW.seq λOt PA=>?_;refine KS hz ?_;refine AW.cond rfl (λh=>absurd h (by first|(simp;done)|(simp only[decide_eq_true_eq];omega))) (λ_=>?_)
 apply AW.exit;apply JO;first|rw[CB]at CL C9|skip
 have JZ:=CL.cl
 have C4:=CL.lt
 refine sQ λN hN=>?_;simp-dsimp-implicitDefEqProofs(maxSteps:=800000) (disch:=omega)only[go_sem,ints,AP,hz,JZ,C9,CL.MR.1,CL.MR.2];apply hN;refine AH ?_;exact⟨_,CL.fz (λi hi=>A1 _ _ A0) A0,os,_,_,rfl,CL.sh⟩
theorem DD(n q r0 s0:Int)(hn:1<=n/\n<=64)(hq:1<=q/\q<=64)(hr:0<=r0/\r0<=64)(hs:0<=s0/\s0<=64)(nx:Nat)(H:HP):AC Tryz.prog 223 nx H [.i .i64 n,.i .i64 q,.i .i64 r0,.i .i64 s0] (zK nx H (ZH 12)):=SS (eD n q r0 s0 hn hq hr hs nx) H
end Go.Proofs.YtgknbnkmilddhaaGreat
