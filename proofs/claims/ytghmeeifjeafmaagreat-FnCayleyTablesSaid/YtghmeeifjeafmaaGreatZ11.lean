import Derived.Test.YtghmeeifjeafmaaGreatZ10
set_option linter.unusedVariables false
set_option linter.unusedSimpArgs false
namespace Go.Proofs.YtghmeeifjeafmaaGreat
def fl(a:List Int):V:=fun k=>a.getD k 0
def vi(n:Nat)(f:V):AV:= .v n (DM n f)
theorem EE{n:Nat}{f:V}:ints (vec n f)=vi n f:=by unfold ints vi;rw[C1,HT]
theorem CN{n:Nat}{a:List Int}(h:a.length=n):ints a=vi n (fl a):=by
  subst h;rw[←EE];congr 1;exact YO a
theorem J3(n:Nat)(f:V):NR (vi n f):=by rw[←EE];exact TB _
theorem Hl{n:Nat}{f g:V}(h:∀k,k<n→f k=g k):vi n f=vi n g:=by unfold vi;rw[FJ h]
theorem Hm{n:Nat}{f g:V}:vec n f=vec n g↔∀k,k<n→f k=g k:=by
  constructor
  · intro h k hk;have:=congrArg (fun l=>l.getD k 0) h;simp only[PM hk]at this;exact this
  exact iG
def pc(os:List Int)(pw:List (List Int))(cj:List (List (List Int))):Pc:=
  ⟨os.length,fun i=>os.getD i 0,fun i=>fl (pw.getD i []),fun i j=>fl ((cj.getD i []).getD (j-i-1) [])⟩
section
variable{os:List Int}{pw:List (List Int)}{cj:List (List (List Int))}
theorem mW.T{v:List Int}{i:Nat}(h:mW os v i):Go.Proofs.YtghmeeifjeafmaaGreat.T (pc os pw cj) (i+1) (fl v):=by
  have hl:=h.1;refine⟨fun k hk=>?_,fun k h1 h2=>?_,fun k hk=>?_⟩
  · by_cases e:k<v.length
    · exact(h.2 k e).2 (by omega)
    simp only[fl];simp[List.getD_eq_getElem?_getD,List.getElem?_eq_none (Nat.le_of_not_lt e)]
  · have h3:k<os.length:=h2;have:=(h.2 k (by omega)).1;refine⟨this.1,?_⟩;show v.getD k 0<os.getD k 0
    omega
  have h3:os.length≤k:=hk;simp only[fl];simp[List.getD_eq_getElem?_getD,List.getElem?_eq_none (show v.length≤k by omega)]
theorem wV.T{v:List Int}(h:wV os v):Go.Proofs.YtghmeeifjeafmaaGreat.T (pc os pw cj) 0 (fl v):=by
  have hl:=h.1;refine⟨fun k hk=>by omega,fun k h1 h2=>?_,fun k hk=>?_⟩
  · have h3:k<os.length:=h2;have:=h.2 k (by omega);refine⟨this.1,?_⟩;show v.getD k 0<os.getD k 0
    omega
  have h3:os.length≤k:=hk;simp only[fl];simp[List.getD_eq_getElem?_getD,List.getElem?_eq_none (show v.length≤k by omega)]
theorem AI.val(h:AI os pw cj):F9 (pc os pw cj):=by
  refine⟨fun i hi=>?_,fun i hi=>(h.2.2.2 i hi).1.T,fun i j JI hj=>?_⟩
  · have:=D0 (h.2.1 i hi);show 1<os.getD i 0
    omega
  have h1:=h.2.2.2 i (Nat.lt_trans JI hj);have h2:j<os.length:=hj;exact(h1.2.2 (j-i-1) (by have:=h1.2.1;omega)).T
theorem AI.o7(h:AI os pw cj){i:Nat}(hi:i<os.length):2≤(pc os pw cj).o i∧(pc os pw cj).o i≤7:=D0 (h.2.1 i hi)
theorem AI.Hn(h:AI os pw cj){i:Nat}(hi:i<os.length):(pw.getD i []).length=os.length:=(h.2.2.2 i hi).1.1
theorem AI.mY(h:AI os pw cj){i j:Nat}(JI:i<j)(hj:j<os.length):((cj.getD i []).getD (j-i-1) []).length=os.length:=by
  have h1:=h.2.2.2 i (Nat.lt_trans JI hj);exact(h1.2.2 (j-i-1) (by have:=h1.2.1;omega)).1
theorem T.small(h:AI os pw cj){i:Nat}{x:V}(hx:T (pc os pw cj) i x)(k:Nat):0≤x k∧x k≤6:=by
  by_cases h1:k<i
  · rw[hx.z k h1];omega
  by_cases h2:k<os.length
  · have h3:=hx.r k (by omega) h2;have h4:=h.o7 h2;omega
  rw[hx.t k (by have:(pc os pw cj).n=os.length:=rfl;omega)];omega
end
theorem JP(os:List Int)(pw:List (List Int))(cj:List (List (List Int)))(h:AI os pw cj)(i:Nat)(hi:i<os.length)(eH:∀a b,T (pc os pw cj) (i+1) a→T (pc os pw cj) (i+1) b→BG Tryz.prog 134 [A8 os pw cj,.i .i64 ((i:Int)+1),vi os.length a,vi os.length b] (vi os.length (M (pc os pw cj) (i+1) a b)))(a:V)(ha:T (pc os pw cj) (i+1) a):BG Tryz.prog 153 [A8 os pw cj,.i .i64 i,vi os.length a] (vi os.length (DC (pc os pw cj) (M (pc os pw cj) (i+1)) i a)):=by
 have hv:=h.val
 have J4:=h.1.1
 have XI:=h.1.2.1
 have E6:=h.1.2.2
 refine BG.AM A9 Tryz.func153 rfl (by kernel_rfl) Tryz.ntmps153 Tryz.results153 (J3 _ _) (fun nx cX=>?_)
 refine sQ fun N hN=>?_;simp-dsimp-implicitDefEqProofs(disch:=omega)only[go_sem,A8,A5,ints,rows,A4,A6,A7,AB,vi];apply hN;refine AW.B5 3 nx _ rfl (A1 _ _ _) ?_
 simp-dsimp-implicitDefEqProofs(disch:=omega)only[go_sem];refine sQ fun N hN=>?_;simp-dsimp-implicitDefEqProofs(disch:=omega)only[go_sem,A8,A5,ints,rows,A4,A6,A7,AB,vi];apply hN;refine sQ fun N hN=>?_;simp-dsimp-implicitDefEqProofs(disch:=omega)only[go_sem,A8,A5,ints,rows,A4,A6,A7,AB,vi];apply hN;refine AW.seq fun N1 BC=>?_;refine AW.freeze 8 (nx+2+4+1) os.length (List.replicate os.length (.i .i64 0)) rfl (A1 _ _ _) (by simp) ?_
 simp-dsimp-implicitDefEqProofs(disch:=omega)only[go_sem];refine sQ fun N hN=>?_;simp-dsimp-implicitDefEqProofs(disch:=omega)only[go_sem,A8,A5,ints,rows,A4,A6,A7,AB,vi];apply hN;apply AW.block;refine AW.AF (α:=Nat×V) (fun x=>sl 48 [(1,.i .i64 i),(2,vi os.length a),(3,A5 os pw cj),(7,.i .i64 os.length),(8,vi os.length x.2),(9,.i .i64 x.1)]) (fun _=>BN) (fun x m=>(i+1≤x.1∧x.1≤os.length)∧T (pc os pw cj) (i+1) x.2∧HB (M (pc os pw cj) (i+1)) ((pc os pw cj).cj i) a (os.length-x.1) x.1 x.2=DC (pc os pw cj) (M (pc os pw cj) (i+1)) i a) (fun x=>os.length-x.1) ((i+1,z0)) ?_ ?_ (by intro d cs hd;simp only[BN]at hd;cases hd) ?_
 ·exact⟨⟨Nat.le_refl _,hi⟩,T.zero hv _,rfl⟩
 ·simp(disch:=omega) [AO,AQ,sl,A5,ints,rows,A4,vi,CA]<;>first|omega|rfl
 skip
 rintro⟨j,u⟩ m ⟨⟨oD,ZX⟩,hu,hf⟩
 dsimp only at oD ZX hu hf
 simp only[vi,A5];simp-dsimp-implicitDefEqProofs(disch:=omega)only[go_sem];refine AW.seq fun N2 BM=>?_;refine sQ fun N hN=>?_;simp-dsimp-implicitDefEqProofs(disch:=omega)only[go_sem,A8,A5,ints,rows,A4,A6,A7,AB,vi];apply hN;refine AW.cond rfl ?_ ?_<;>intro h1
 ·try simp only[cn]at h1
  have hjo:j<os.length:=by omega
  have a9:=T.small h ha j;apply AW.skip;apply BM;refine AW.seq fun N3 BQ=>?_;apply AW.block;refine sQ fun N hN=>?_;simp-dsimp-implicitDefEqProofs(disch:=omega)only[go_sem,A8,A5,ints,rows,A4,A6,A7,AB,vi];apply hN;apply AW.block;refine AW.AF (α:=Nat×V) (fun x=>sl 48 [(1,.i .i64 i),(2,vi os.length a),(3,A5 os pw cj),(7,.i .i64 os.length),(8,vi os.length x.2),(9,.i .i64 j),(10,.i .i64 x.1)]) (fun _=>BN) (fun x m=>x.1≤(a j).toNat∧T (pc os pw cj) (i+1) x.2∧x.2=CW (fun w=>M (pc os pw cj) (i+1) w ((pc os pw cj).cj i j)) x.1 u) (fun x=>(a j).toNat-x.1) ((0,u)) ?_ ?_ (fun _ _ h=>h) ?_
  ·exact⟨Nat.zero_le _,hu,rfl⟩
  ·simp(disch:=omega) [AO,AQ,sl,A5,ints,rows,A4,vi]
  skip
  rintro⟨q,w⟩ m2 ⟨hq,hw,he⟩;dsimp only at hq hw he;simp only[vi,A5];simp-dsimp-implicitDefEqProofs(disch:=omega)only[go_sem];refine AW.seq fun N4 CG=>?_;refine sQ fun N hN=>?_;simp-dsimp-implicitDefEqProofs(disch:=omega)only[go_sem,A8,A5,ints,rows,A4,A6,A7,AB,vi];apply hN;refine AW.cond rfl ?_ ?_<;>intro h2
  ·try simp only[cn]at h2
   have ej:((j:Int)-i-1).toNat=j-i-1:=by omega
   have UF:=(h.2.2.2 i hi).2.1;have e1:AV.v ((cj.getD i []).getD (j-i-1) []).length (List.map (AV.i IntKind.i64) ((cj.getD i []).getD (j-i-1) []))=vi os.length ((pc os pw cj).cj i j):=CN (h.mY (by omega) hjo);apply AW.skip;apply CG;refine AW.seq fun N5 DW=>?_;apply AW.block;refine AW.BI A9 (by kernel_rfl) 17 (by kernel_rfl) ?_
   simp-dsimp-implicitDefEqProofs(disch:=omega)only[B3,B4,BH,List.take_succ_cons,List.take_zero,List.drop_succ_cons,List.drop_zero,List.take_nil,List.drop_nil,go_sem,undef,A8,A5,ints,rows,A4,A6,A7,AB,AJ,vi,ej];rw[e1];refine⟨_,.of (eH w _ hw (hv.cj i j (by omega) hjo)),?_⟩;try simp-dsimp-implicitDefEqProofs(disch:=omega)only[go_sem,A8,A5,ints,rows,A4,A6,A7,AB,vi]
   apply DW;apply rQ;simp-dsimp-implicitDefEqProofs(disch:=omega)only[go_sem,A8,A5,ints,rows,A4,A6,A7,AB,vi];refine⟨(q+1,M (pc os pw cj) (i+1) w ((pc os pw cj).cj i j)),?_,fun _ _ h=>h,?_,?_⟩
   ·simp(disch:=omega) [AO,AQ,sl,A5,AJ,ints,rows,A4,vi]<;>omega
   ·exact⟨by omega,TF hv hw (hv.cj i j (by omega) hjo),by rw[he];rfl⟩
   first|omega|(simp only;omega)
  try simp only[cn]at h2
  apply AW.exit;apply BQ;apply rQ;simp-dsimp-implicitDefEqProofs(disch:=omega)only[go_sem,A8,A5,ints,rows,A4,A6,A7,AB,vi];refine⟨(j+1,w),?_,fun _ _ h=>h,?_,?_⟩
  ·simp(disch:=omega) [AO,AQ,sl,A5,AJ,ints,rows,A4,vi]<;>omega
  ·refine⟨by omega,hw,?_⟩;rw[←hf,he,show os.length-j=os.length-(j+1)+1 by omega,HB,show q=(a j).toNat by omega]
  first|omega|(simp only;omega)
 try simp only[cn]at h1
 apply AW.exit;apply BC;refine sQ fun N hN=>?_;simp-dsimp-implicitDefEqProofs(disch:=omega)only[go_sem,A8,A5,ints,rows,A4,A6,A7,AB,vi];apply hN;apply AW.ret;simp-dsimp-implicitDefEqProofs(disch:=omega)only[go_sem];obtain rfl:j=os.length:=by omega
 rw[Nat.sub_self]at hf
 rw[←hf];rfl
theorem F5{n:Nat}(f:V)(hn:n≤1099511627776)(nx:Nat)(H:HP):AC Tryz.prog 104 nx H [vi n f] (fun nx' H' r=>mT nx nx' H H' r n f):=by
  have:=CB (vec n f) (by rw[C1];exact hn) nx H;rw[EE,C1]at this;refine this.mono ?_;rintro nx' H' r ⟨id,h1,h2,h3,h4⟩;exact⟨id,h1,h2,h3,by rw[h4,FJ (fun k hk=>PM hk)]⟩
theorem Vw.vi{H:HP}{id n:Nat}{f:V}(h:H id=some (Go.Proofs.YtghmeeifjeafmaaGreat.DM n f)):Vw H (.h id 0 n) (Go.Proofs.YtghmeeifjeafmaaGreat.vi n f):=Vw.D1 h E0.symm
theorem S7(os:List Int)(pw:List (List Int))(cj:List (List (List Int)))(h:AI os pw cj)(i:Nat)(hi:i<os.length)(eH:∀a b,T (pc os pw cj) (i+1) a→T (pc os pw cj) (i+1) b→BG Tryz.prog 134 [A8 os pw cj,.i .i64 ((i:Int)+1),vi os.length a,vi os.length b] (vi os.length (M (pc os pw cj) (i+1) a b)))(a b:V)(ha:T (pc os pw cj) i a)(hb:T (pc os pw cj) i b):BG Tryz.prog 134 [A8 os pw cj,.i .i64 i,vi os.length a,vi os.length b] (vi os.length (M (pc os pw cj) i a b)):=by
 have hv:=h.val
 have J4:=h.1.1
 have XI:=h.1.2.1
 have E6:=h.1.2.2
 have hsa:=T.small h ha i
 have hsb:=T.small h hb i
 have UA:=h.o7 hi
 have Ho:(pc os pw cj).o i=os.getD i 0:=rfl
 refine BG.GD A9 Tryz.func134 rfl (by kernel_rfl) Tryz.ntmps134 Tryz.results134 ((J3 _ _)) (fun nx cX=>?_)
 refine sQ fun N hN=>?_;simp-dsimp-implicitDefEqProofs(disch:=omega)only[go_sem,A8,A5,ints,rows,A4,A6,A7,AB,vi];apply hN;refine AW.B5 4 nx _ rfl (A1 _ _ _) ?_
 simp-dsimp-implicitDefEqProofs(disch:=omega)only[go_sem];refine sQ fun N hN=>?_;simp-dsimp-implicitDefEqProofs(disch:=omega)only[go_sem,A8,A5,ints,rows,A4,A6,A7,AB,vi];apply hN;refine AW.seq fun N1 BC=>?_;refine sQ fun N hN=>?_;simp-dsimp-implicitDefEqProofs(disch:=omega)only[go_sem,A8,A5,ints,rows,A4,A6,A7,AB,vi];apply hN;refine AW.cond rfl ?_ ?_<;>intro h1
 ·try simp only[cn]at h1
  exfalso;omega
 try simp only[cn]at h1
 apply AW.skip;apply BC;refine sQ fun N hN=>?_;simp-dsimp-implicitDefEqProofs(disch:=omega)only[go_sem,A8,A5,ints,rows,A4,A6,A7,AB,vi];refine(F5 a (by omega) _ _).mono ?_
 rintro Mq H1 r1 ⟨XO,rfl,g1,g2,rfl⟩
 try simp-dsimp-implicitDefEqProofs(disch:=omega)only[go_sem,A8,A5,ints,rows,A4,A6,A7,AB,vi]
 refine(F5 b (by omega) _ _).mono ?_
 rintro nx2 H2 r2 ⟨HD,rfl,g3,g4,rfl⟩
 try simp-dsimp-implicitDefEqProofs(disch:=omega)only[go_sem,A8,A5,ints,rows,A4,A6,A7,AB,vi]
 apply hN;refine sQ fun N hN=>?_;simp-dsimp-implicitDefEqProofs(disch:=omega)only[go_sem,A8,A5,ints,rows,A4,A6,A7,AB,vi];apply hN;refine sQ fun N hN=>?_;simp-dsimp-implicitDefEqProofs(disch:=omega)only[go_sem,A8,A5,ints,rows,A4,A6,A7,AB,vi];apply hN;refine AW.seq fun N2 BM=>?_;refine AW.freeze 10 XO os.length (DM os.length (AX a i 0)) rfl (by simp(disch:=omega)only[A1,A0]) E0 ?_
 simp-dsimp-implicitDefEqProofs(disch:=omega)only[go_sem];refine AW.freeze 11 HD os.length (DM os.length (AX b i 0)) rfl (by simp(disch:=omega)only[A1,A0]) E0 ?_
 simp-dsimp-implicitDefEqProofs(disch:=omega)only[go_sem];refine sQ fun N hN=>?_;simp-dsimp-implicitDefEqProofs(disch:=omega)only[go_sem,A8,A5,ints,rows,A4,A6,A7,AB,vi];apply hN;apply AW.block;refine AW.AF (α:=Nat×V) (fun x=>sl 92 [(1,.i .i64 i),(2,vi os.length a),(3,vi os.length b),(4,A5 os pw cj),(10,vi os.length x.2),(11,vi os.length (AX b i 0)),(12,.i .i64 x.1)]) (fun _=>BN) (fun x m=>x.1≤(b i).toNat∧T (pc os pw cj) (i+1) x.2∧x.2=CW (DC (pc os pw cj) (M (pc os pw cj) (i+1)) i) x.1 (AX a i 0)) (fun x=>(b i).toNat-x.1) ((0,AX a i 0)) ?_ ?_ (by intro d cs hd;simp only[BN]at hd;cases hd) ?_
 ·exact⟨Nat.zero_le _,ha.cut,rfl⟩
 ·simp(disch:=omega) [AO,AQ,sl,A5,ints,rows,A4,vi]
 skip
 rintro⟨q,w⟩ m ⟨hq,hw,he⟩
 dsimp only at hq hw he
 simp only[vi,A5];simp-dsimp-implicitDefEqProofs(disch:=omega)only[go_sem];refine AW.seq fun N3 BQ=>?_;refine sQ fun N hN=>?_;simp-dsimp-implicitDefEqProofs(disch:=omega)only[go_sem,A8,A5,ints,rows,A4,A6,A7,AB,vi];apply hN;refine AW.cond rfl ?_ ?_<;>intro h2
 ·try simp only[cn]at h2
  apply AW.skip;apply BQ;refine AW.seq fun N4 CG=>?_;apply AW.block;apply rQ;simp-dsimp-implicitDefEqProofs(disch:=omega)only[go_sem,A8,A5,ints,rows,A4,A6,A7,AB,vi];refine AC.pure (.of (JP os pw cj h i hi eH w hw)) ?_;try simp-dsimp-implicitDefEqProofs(disch:=omega)only[go_sem,A8,A5,ints,rows,A4,A6,A7,AB,vi]
  apply CG;apply rQ;simp-dsimp-implicitDefEqProofs(disch:=omega)only[go_sem,A8,A5,ints,rows,A4,A6,A7,AB,vi];refine⟨(q+1,DC (pc os pw cj) (M (pc os pw cj) (i+1)) i w),?_,fun _ _ h=>h,?_,?_⟩
  ·simp(disch:=omega) [AO,AQ,sl,A5,AJ,ints,rows,A4,vi]<;>omega
  ·exact⟨by omega,RY hv (fun _ _=>TF hv) _,by rw[he];rfl⟩
  first|omega|(simp only;omega)
 try simp only[cn]at h2
 obtain rfl:q=(b i).toNat:=by omega
 apply AW.exit;apply BM;refine sQ fun N hN=>?_;simp-dsimp-implicitDefEqProofs(disch:=omega)only[go_sem,A8,A5,ints,rows,A4,A6,A7,AB,vi];refine AC.pure (.of (eH w (AX b i 0) hw hb.cut)) ?_;try simp-dsimp-implicitDefEqProofs(disch:=omega)only[go_sem,A8,A5,ints,rows,A4,A6,A7,AB,vi]
 apply hN;refine AW.seq fun N hN=>?_;refine AW.BI A9 (by kernel_rfl) 10 (by kernel_rfl) ?_
 simp-dsimp-implicitDefEqProofs(disch:=omega)only[B3,B4,BH,List.take_succ_cons,List.take_zero,List.drop_succ_cons,List.drop_zero,List.take_nil,List.drop_nil,go_sem,undef,A8,A5,ints,rows,A4,A6,A7,AB,AJ,vi];apply hN;refine AW.seq fun N5 DW=>?_;refine sQ fun N hN=>?_;simp-dsimp-implicitDefEqProofs(disch:=omega)only[go_sem,A8,A5,ints,rows,A4,A6,A7,AB,vi];apply hN;refine AW.cond rfl ?_ ?_<;>intro h3
 ·try simp only[cn]at h3
  have e2:AV.v (pw.getD i []).length (List.map (AV.i IntKind.i64) (pw.getD i []))=vi os.length ((pc os pw cj).pw i):=CN (h.Hn hi);refine sQ fun N hN=>?_;simp-dsimp-implicitDefEqProofs(disch:=omega)only[go_sem,A8,A5,ints,rows,A4,A6,A7,AB,vi];apply hN;refine AW.BI A9 (by kernel_rfl) 11 (by kernel_rfl) ?_
  simp-dsimp-implicitDefEqProofs(disch:=omega)only[B3,B4,BH,List.take_succ_cons,List.take_zero,List.drop_succ_cons,List.drop_zero,List.take_nil,List.drop_nil,go_sem,undef,A8,A5,ints,rows,A4,A6,A7,AB,AJ,vi];rw[e2];refine⟨_,.of (eH _ _ (hv.pw i hi) (TF hv hw hb.cut)),?_⟩;try simp-dsimp-implicitDefEqProofs(disch:=omega)only[go_sem,A8,A5,ints,rows,A4,A6,A7,AB,vi]
  apply DW;refine sQ fun N hN=>?_;simp-dsimp-implicitDefEqProofs(disch:=omega)only[go_sem,A8,A5,ints,rows,A4,A6,A7,AB,vi];refine(F5 _ (by omega) _ _).mono ?_
  rintro nx3 H3 r3 ⟨uC,rfl,g5,g6,rfl⟩;try simp-dsimp-implicitDefEqProofs(disch:=omega)only[go_sem,A8,A5,ints,rows,A4,A6,A7,AB,vi]
  apply hN;refine sQ fun N hN=>?_;simp-dsimp-implicitDefEqProofs(disch:=omega)only[go_sem,A8,A5,ints,rows,A4,A6,A7,AB,vi];apply hN;refine sQ fun N hN=>?_;simp-dsimp-implicitDefEqProofs(disch:=omega)only[go_sem,A8,A5,ints,rows,A4,A6,A7,AB,vi];apply hN;apply AW.ret;simp-dsimp-implicitDefEqProofs(disch:=omega)only[go_sem];refine Vw.vi ?_
  rw[A1,PN (show i<(pc os pw cj).n from hi)];unfold ZZ;rw[if_pos (show(pc os pw cj).o i≤a i+b i from h3),←he];rfl
 try simp only[cn]at h3
 apply AW.skip;apply DW;refine sQ fun N hN=>?_;simp-dsimp-implicitDefEqProofs(disch:=omega)only[go_sem,A8,A5,ints,rows,A4,A6,A7,AB,vi];refine(F5 _ (by omega) _ _).mono ?_
 rintro nx3 H3 r3 ⟨uC,rfl,g5,g6,rfl⟩
 try simp-dsimp-implicitDefEqProofs(disch:=omega)only[go_sem,A8,A5,ints,rows,A4,A6,A7,AB,vi]
 apply hN;refine sQ fun N hN=>?_;simp-dsimp-implicitDefEqProofs(disch:=omega)only[go_sem,A8,A5,ints,rows,A4,A6,A7,AB,vi];apply hN;refine sQ fun N hN=>?_;simp-dsimp-implicitDefEqProofs(disch:=omega)only[go_sem,A8,A5,ints,rows,A4,A6,A7,AB,vi];apply hN;apply AW.ret;simp-dsimp-implicitDefEqProofs(disch:=omega)only[go_sem];refine Vw.vi ?_
 rw[A1,PN (show i<(pc os pw cj).n from hi)]
 unfold ZZ
 rw[if_neg (show ¬(pc os pw cj).o i≤a i+b i by omega),←he]
theorem UG(os:List Int)(pw:List (List Int))(cj:List (List (List Int)))(h:AI os pw cj)(a b:V):BG Tryz.prog 134 [A8 os pw cj,.i .i64 os.length,vi os.length a,vi os.length b] (vi os.length (M (pc os pw cj) os.length a b)):=by
 have J4:=h.1.1
 refine BG.GD A9 Tryz.func134 rfl (by kernel_rfl) Tryz.ntmps134 Tryz.results134 ((J3 _ _)) (fun nx cX=>?_)
 refine sQ fun N hN=>?_;simp-dsimp-implicitDefEqProofs(disch:=omega)only[go_sem,A8,A5,ints,rows,A4,vi];apply hN;refine AW.B5 4 nx _ rfl (A1 _ _ _) ?_
 simp-dsimp-implicitDefEqProofs(disch:=omega)only[go_sem];refine sQ fun N hN=>?_;simp-dsimp-implicitDefEqProofs(disch:=omega)only[go_sem,A8,A5,ints,rows,A4,vi];apply hN;refine AW.seq fun N1 BC=>?_;refine sQ fun N hN=>?_;simp-dsimp-implicitDefEqProofs(disch:=omega)only[go_sem,A8,A5,ints,rows,A4,vi];apply hN;refine AW.cond rfl ?_ ?_<;>intro h1
 ·try simp only[cn]at h1
  refine sQ fun N hN=>?_;simp-dsimp-implicitDefEqProofs(disch:=omega)only[go_sem,A8,A5,ints,rows,A4,vi];apply hN;apply AW.ret;simp-dsimp-implicitDefEqProofs(disch:=omega)only[go_sem];refine Vw.vi ?_
  rw[A1,show M (pc os pw cj) os.length a b=z0 from WS (P:=pc os pw cj) (Nat.le_refl _) a b,CA];rfl
 try simp only[cn]at h1
 simp at h1
theorem DJ(os:List Int)(pw:List (List Int))(cj:List (List (List Int)))(h:AI os pw cj):∀(i:Nat),i≤os.length→∀a b,T (pc os pw cj) i a→T (pc os pw cj) i b→
    BG Tryz.prog 134 [A8 os pw cj,.i .i64 i,vi os.length a,vi os.length b] (vi os.length (M (pc os pw cj) i a b)):=by
  have key:∀d i,i+d=os.length→∀a b,T (pc os pw cj) i a→T (pc os pw cj) i b→
      BG Tryz.prog 134 [A8 os pw cj,.i .i64 i,vi os.length a,vi os.length b] (vi os.length (M (pc os pw cj) i a b)):=by
    intro d;induction d with
    |zero=>intro i hi a b _ _;obtain rfl:i=os.length:=hi;exact UG os pw cj h a b
    | succ d ih=>
      intro i hi a b ha hb;refine S7 os pw cj h i (by omega) (fun a b ha hb=>?_) a b ha hb;have:=ih (i+1) (by omega) a b ha hb;rwa [Int.natCast_add]at this
  exact fun i hi=>key (os.length-i) i (by omega)
theorem EK(os:List Int)(pw:List (List Int))(cj:List (List (List Int)))(h:AI os pw cj)(i:Nat)(hi:i<os.length)(a b:V)(ha:T (pc os pw cj) (i+1) a)(hb:T (pc os pw cj) (i+1) b):
    BG Tryz.prog 134 [A8 os pw cj,.i .i64 ((i:Int)+1),vi os.length a,vi os.length b] (vi os.length (M (pc os pw cj) (i+1) a b)):=by
  have:=DJ os pw cj h (i+1) hi a b ha hb;rwa [Int.natCast_add]at this
theorem EF(os:List Int)(pw:List (List Int))(cj:List (List (List Int)))(h:AI os pw cj)(i:Nat)(hi:i<os.length)(a:V)(ha:T (pc os pw cj) (i+1) a):BG Tryz.prog 153 [A8 os pw cj,.i .i64 i,vi os.length a] (vi os.length (DC (pc os pw cj) (M (pc os pw cj) (i+1)) i a)):=
  JP os pw cj h i hi (EK os pw cj h i hi) a ha
theorem p6{N:V→Prop}{m:V→V→V}(g:HL N m){x:V}(hx:N x)(k:Nat):rep m (m x x) k=rep m x (2*k):=by
  induction k with
  |zero=>rfl
  | succ k ih=>
    show m (rep m (m x x) k) (m x x)=_
    rw[ih,Nat.mul_add,g.EP hx];show _=m (rep m x (2*k)) (m (m z0 x) x)
    rw[g.l1 hx]
theorem FK(os:List Int)(pw:List (List Int))(cj:List (List (List Int)))(h:AI os pw cj)(i:Nat)(hi:i≤os.length)(hg:HL (T (pc os pw cj) i) (M (pc os pw cj) i))(a:V)(ha:T (pc os pw cj) i a)(k:Nat)(hk:k≤1099511627776):BG Tryz.prog 132 [A8 os pw cj,.i .i64 i,vi os.length a,.i .i64 k] (vi os.length (rep (M (pc os pw cj) i) a k)):=by
 have hv:=h.val
 have J4:=h.1.1
 refine BG.AM A9 Tryz.func132 rfl (by kernel_rfl) Tryz.ntmps132 Tryz.results132 (J3 _ _) (fun nx cX=>?_)
 refine sQ fun N hN=>?_;simp-dsimp-implicitDefEqProofs(disch:=omega)only[go_sem,A8,A5,ints,rows,A4,vi];apply hN;refine AW.B5 4 nx _ rfl (A1 _ _ _) ?_
 simp-dsimp-implicitDefEqProofs(disch:=omega)only[go_sem];refine sQ fun N hN=>?_;simp-dsimp-implicitDefEqProofs(disch:=omega)only[go_sem,A8,A5,ints,rows,A4,vi];apply hN;refine AW.freeze 9 (nx+2+3) os.length (List.replicate os.length (.i .i64 0)) rfl (A1 _ _ _) (by simp) ?_
 simp-dsimp-implicitDefEqProofs(disch:=omega)only[go_sem];refine sQ fun N hN=>?_;simp-dsimp-implicitDefEqProofs(disch:=omega)only[go_sem,A8,A5,ints,rows,A4,vi];apply hN;refine AW.seq fun N1 BC=>?_;apply AW.block;refine AW.AF (α:=Nat×V×V) (fun x=>sl 34 [(1,.i .i64 i),(3,.i .i64 x.1),(4,A5 os pw cj),(9,vi os.length x.2.1),(10,vi os.length x.2.2)]) (fun _=>BN) (fun x m=>x.1≤1099511627776∧T (pc os pw cj) i x.2.1∧T (pc os pw cj) i x.2.2∧M (pc os pw cj) i x.2.1 (rep (M (pc os pw cj) i) x.2.2 x.1)=rep (M (pc os pw cj) i) a k) (fun x=>x.1) ((k,z0,a)) ?_ ?_ (by intro d cs hd;simp only[BN]at hd;cases hd) ?_
 ·exact⟨hk,T.zero hv _,ha,hg.l1 (hg.rep ha k)⟩
 ·simp(disch:=omega) [AO,AQ,sl,A5,ints,rows,A4,vi,CA]<;>first|omega|rfl
 skip
 rintro⟨q,u,w⟩ m ⟨hq,hu,hw,he⟩
 dsimp only at hq hu hw he
 simp only[vi,A5];simp-dsimp-implicitDefEqProofs(disch:=omega)only[go_sem];refine AW.seq fun N2 BM=>?_;refine sQ fun N hN=>?_;simp-dsimp-implicitDefEqProofs(disch:=omega)only[go_sem,A8,A5,ints,rows,A4,vi];apply hN;refine AW.cond rfl ?_ ?_<;>intro h1
 ·try simp only[cn]at h1
  apply AW.skip;apply BM;apply AW.block;refine AW.seq fun N3 BQ=>?_;refine sQ fun N hN=>?_;simp-dsimp-implicitDefEqProofs(disch:=omega)only[go_sem,A8,A5,ints,rows,A4,vi];apply hN;refine AW.cond rfl ?_ ?_<;>intro h2
  ·try simp only[cn]at h2
   apply rQ;simp-dsimp-implicitDefEqProofs(disch:=omega)only[go_sem,A8,A5,ints,rows,A4,vi];refine AC.pure (.of (DJ os pw cj h i hi u w hu hw)) ?_;try simp-dsimp-implicitDefEqProofs(disch:=omega)only[go_sem,A8,A5,ints,rows,A4,vi]
   apply BQ;refine sQ fun N hN=>?_;simp-dsimp-implicitDefEqProofs(disch:=omega)only[go_sem,A8,A5,ints,rows,A4,vi];refine AC.pure (.of (DJ os pw cj h i hi w w hw hw)) ?_;try simp-dsimp-implicitDefEqProofs(disch:=omega)only[go_sem,A8,A5,ints,rows,A4,vi]
   apply hN;apply rQ;simp-dsimp-implicitDefEqProofs(disch:=omega)only[go_sem,A8,A5,ints,rows,A4,vi];refine⟨(q/2,M (pc os pw cj) i u w,M (pc os pw cj) i w w),?_,fun _ _ h=>h,?_,?_⟩
   ·simp(disch:=omega) [AO,AQ,sl,A5,AJ,ints,rows,A4,vi]<;>omega
   ·rw[Int.tmod_eq_emod_of_nonneg (by omega)]at h2;refine⟨by first|omega|(dsimp only;omega),hg.cl hu hw,hg.cl hw hw,?_⟩;show M (pc os pw cj) i (M (pc os pw cj) i u w) (rep (M (pc os pw cj) i) (M (pc os pw cj) i w w) (q/2))=_
    rw[p6 hg hw,hg.ac hu hw (hg.rep hw _),←hg.lA hw,show 2*(q/2)+1=q by omega,he]
   first|omega|(simp only;omega)
  try simp only[cn]at h2
  apply AW.skip;apply BQ;refine sQ fun N hN=>?_;simp-dsimp-implicitDefEqProofs(disch:=omega)only[go_sem,A8,A5,ints,rows,A4,vi];refine AC.pure (.of (DJ os pw cj h i hi w w hw hw)) ?_;try simp-dsimp-implicitDefEqProofs(disch:=omega)only[go_sem,A8,A5,ints,rows,A4,vi]
  apply hN;apply rQ;simp-dsimp-implicitDefEqProofs(disch:=omega)only[go_sem,A8,A5,ints,rows,A4,vi];refine⟨(q/2,u,M (pc os pw cj) i w w),?_,fun _ _ h=>h,?_,?_⟩
  ·simp(disch:=omega) [AO,AQ,sl,A5,AJ,ints,rows,A4,vi]<;>omega
  ·rw[Int.tmod_eq_emod_of_nonneg (by omega)]at h2;refine⟨by first|omega|(dsimp only;omega),hu,hg.cl hw hw,?_⟩;show M (pc os pw cj) i u (rep (M (pc os pw cj) i) (M (pc os pw cj) i w w) (q/2))=_
   rw[p6 hg hw,show 2*(q/2)=q by omega,he]
  first|omega|(simp only;omega)
 try simp only[cn]at h1
 apply AW.exit;apply BC;refine sQ fun N hN=>?_;simp-dsimp-implicitDefEqProofs(disch:=omega)only[go_sem,A8,A5,ints,rows,A4,vi];apply hN;apply AW.ret;simp-dsimp-implicitDefEqProofs(disch:=omega)only[go_sem];obtain rfl:q=0:=by omega
 rw[←he,show rep (M (pc os pw cj) i) w 0=z0 from rfl,hg.r1 hu];rfl
end Go.Proofs.YtghmeeifjeafmaaGreat
namespace Go.Proofs.YtghmeeifjeafmaaGreat
section
variable{os:List Int}{pw:List (List Int)}{cj:List (List (List Int))}
theorem T.p7{i:Nat}{f g:V}(hf:T (pc os pw cj) i f)(hg:T (pc os pw cj) i g):vec os.length f=vec os.length g↔f=g:=by
  constructor
  · intro h;funext k
    by_cases e:k<os.length
    · exact Hm.1 h k e
    rw[hf.t k (by have:(pc os pw cj).n=os.length:=rfl;omega),hg.t k (by have:(pc os pw cj).n=os.length:=rfl;omega)]
  intro h;rw[h]
theorem DQ{i:Nat}{f g:V}(hn:os.length≤1048576)(hf:T (pc os pw cj) i f)(hg:T (pc os pw cj) i g):BG Tryz.prog 96 [vi os.length f,vi os.length g] (.b (tf (f=g))):=by
  have:=KW (vec os.length f) (vec os.length g) (by rw[C1];omega) (by rw[C1];omega);rw[EE,EE]at this;rwa [RX (hf.p7 hg)]at this
theorem ON(h:AI os pw cj)(i:Nat)(hi:i<os.length)(hg:HL (T (pc os pw cj) (i+1)) (M (pc os pw cj) (i+1)))(a:V)(ha:T (pc os pw cj) (i+1) a)(k:Int)(h0:0≤k)(hk:k≤1099511627776):
    BG Tryz.prog 132 [A8 os pw cj,.i .i64 ((i:Int)+1),vi os.length a,.i .i64 k] (vi os.length (rep (M (pc os pw cj) (i+1)) a k.toNat)):=by
  have:=FK os pw cj h (i+1) hi hg a ha k.toNat (by omega);rw[Int.toNat_of_nonneg h0]at this;rwa [Int.natCast_add]at this
end
theorem S8(n j:Nat)(hn:n≤1048576)(hj:j<n):BG Tryz.prog 149 [.i .i64 n,.i .i64 j] (vi n (un j)):=by
 refine BG.GD A9 Tryz.func149 rfl (by kernel_rfl) Tryz.ntmps149 Tryz.results149 ((J3 _ _)) (fun nx cX=>?_)
 refine sQ fun N hN=>?_;simp-dsimp-implicitDefEqProofs(disch:=omega)only[go_sem];apply hN;refine sQ fun N hN=>?_;simp-dsimp-implicitDefEqProofs(disch:=omega)only[go_sem];apply hN;refine sQ fun N hN=>?_;simp-dsimp-implicitDefEqProofs(disch:=omega)only[go_sem];apply hN;refine sQ fun N hN=>?_;simp-dsimp-implicitDefEqProofs(disch:=omega)only[go_sem];apply hN;apply AW.ret;simp-dsimp-implicitDefEqProofs(disch:=omega)only[go_sem];refine Vw.vi ?_
 rw[A1,CA,TA hj];rfl
def FO(p:Prop)(r:AV):Prop:=∃k l a b:Int,r= .g [.i .i64 k,.i .i64 l,.i .i64 a,.i .i64 b]∧(k=0↔p)
theorem FO.bad{p:Prop}{k l a b:Int}(hk:k≠0)(h:¬p):FO p (.g [.i .i64 k,.i .i64 l,.i .i64 a,.i .i64 b]):=⟨k,l,a,b,rfl,⟨fun e=>absurd e hk,fun e=>absurd e h⟩⟩
theorem FO.Ry{p:Prop}{l a b:Int}(h:p):FO p (.g [.i .i64 0,.i .i64 l,.i .i64 a,.i .i64 b]):=⟨0,l,a,b,rfl,⟨fun _=>h,fun _=>rfl⟩⟩
set_option maxRecDepth 20000 in
set_option maxHeartbeats 2000000 in
theorem QZ(os:List Int)(pw:List (List Int))(cj:List (List (List Int)))(h:AI os pw cj)(i:Nat)(hi:i<os.length)(hg:HL (T (pc os pw cj) (i+1)) (M (pc os pw cj) (i+1)))(nx:Nat)(H:HP):AC Tryz.prog 152 nx H [A8 os pw cj,.i .i64 i] (fun nx' H' r=>H'=H∧FO (oU (pc os pw cj) i) r):=by
 have hv:=h.val
 have J4:=h.1.1
 have XI:=h.1.2.1
 have E6:=h.1.2.2
 have UF:=(h.2.2.2 i hi).2.1
 have e2:AV.v (pw.getD i []).length (List.map (AV.i IntKind.i64) (pw.getD i []))=vi os.length ((pc os pw cj).pw i):=CN (h.Hn hi)
 have im:=fun {a:V}=>RY (P:=pc os pw cj) (i:=i) hv (fun _ _=>TF hv) a
 refine AC.C2 A9 Tryz.func152 rfl (by kernel_rfl) Tryz.ntmps152 Tryz.results152 (fun C7 cX=>?_)
 refine sQ fun N hN=>?_;simp-dsimp-implicitDefEqProofs(disch:=omega)only[go_sem,A8,A5,ints,rows,A4,A6,A7,AB,vi];apply hN;refine AW.B5 2 nx _ rfl ((A0 _ _ (by omega)).trans (A1 _ _ _)) ?_
 simp-dsimp-implicitDefEqProofs(disch:=omega)only[go_sem];refine sQ fun N hN=>?_;simp-dsimp-implicitDefEqProofs(disch:=omega)only[go_sem,A8,A5,ints,rows,A4,A6,A7,AB,vi];apply hN;refine sQ fun N hN=>?_;simp-dsimp-implicitDefEqProofs(disch:=omega)only[go_sem,A8,A5,ints,rows,A4,A6,A7,AB,vi];apply hN;refine AW.seq fun N1 BC=>?_;refine sQ fun N hN=>?_;simp-dsimp-implicitDefEqProofs(disch:=omega)only[go_sem,A8,A5,ints,rows,A4,A6,A7,AB,vi];apply hN;apply AW.block;refine AW.AF (α:=Nat) (fun x=>sl 188 [(1,.i .i64 i),(2,A5 os pw cj),(4,.q (nx+1) 0),(5,.i .i64 os.length),(6,.i .i64 i),(7,.i .i64 x)]) (fun _=>AU H (nx+1) (some [.i .i64 0,.i .i64 0,.i .i64 0,.i .i64 0])) (fun x m=>(i+1≤x∧x≤os.length)∧∀j,i<j→j<x→rep (M (pc os pw cj) (i+1)) ((pc os pw cj).cj i j) ((pc os pw cj).o j).toNat=DC (pc os pw cj) (M (pc os pw cj) (i+1)) i ((pc os pw cj).pw j)) (fun x=>os.length-x) (i+1) ?_ ?_ (by have:=C7 nx (Nat.le_refl _);intro d cs hd;simp only[AU]at hd ⊢;grind) ?_
 ·exact⟨⟨Nat.le_refl _,hi⟩,by intro j h1 h2;omega⟩
 ·simp(disch:=omega) [AO,AQ,sl,A5,ints,rows,A4,vi]
 skip
 rintro j m ⟨⟨oD,ZX⟩,hI⟩
 simp only[A5];simp-dsimp-implicitDefEqProofs(disch:=omega)only[go_sem];refine AW.seq fun N2 BM=>?_;refine sQ fun N hN=>?_;simp-dsimp-implicitDefEqProofs(disch:=omega)only[go_sem,A8,A5,ints,rows,A4,A6,A7,AB,vi];apply hN;refine AW.cond rfl ?_ ?_<;>intro h1
 ·try simp only[cn]at h1
  have ej:((j:Int)-i-1).toNat=j-i-1:=by omega
  have e1:AV.v ((cj.getD i []).getD (j-i-1) []).length (List.map (AV.i IntKind.i64) ((cj.getD i []).getD (j-i-1) []))=vi os.length ((pc os pw cj).cj i j):=CN (h.mY (by omega) (by omega));have e3:AV.v (pw.getD j []).length (List.map (AV.i IntKind.i64) (pw.getD j []))=vi os.length ((pc os pw cj).pw j):=CN (h.Hn (by omega));have vW:=h.o7 (show j<os.length by omega);have Rz:(pc os pw cj).o j=os.getD j 0:=rfl;have tj:=hv.cj i j (by omega) (show j<os.length by omega);have tp:=(hv.pw j (show j<os.length by omega)).mono hv (show i+1≤j+1 by omega);apply AW.skip;apply BM;refine AW.seq fun N3 BQ=>?_;apply AW.block;refine AW.seq fun N hN=>?_;refine AW.BI A9 (by kernel_rfl) 21 (by kernel_rfl) ?_
  simp-dsimp-implicitDefEqProofs(disch:=omega)only[B3,B4,BH,List.take_succ_cons,List.take_zero,List.drop_succ_cons,List.drop_zero,List.take_nil,List.drop_nil,go_sem,undef,A8,A5,ints,rows,A4,A6,A7,AB,AJ,vi,ej];rw[e1];refine⟨_,.of (ON h i hi hg _ tj _ (by omega) (by omega)),?_⟩;try simp-dsimp-implicitDefEqProofs(disch:=omega)only[go_sem,A8,A5,ints,rows,A4,A6,A7,AB,vi]
  apply hN;refine AW.seq fun N hN=>?_;refine AW.BI A9 (by kernel_rfl) 11 (by kernel_rfl) ?_
  simp-dsimp-implicitDefEqProofs(disch:=omega)only[B3,B4,BH,List.take_succ_cons,List.take_zero,List.drop_succ_cons,List.drop_zero,List.take_nil,List.drop_nil,go_sem,undef,A8,A5,ints,rows,A4,A6,A7,AB,AJ,vi];rw[e3];refine⟨_,.of (EF os pw cj h i hi _ tp),?_⟩;try simp-dsimp-implicitDefEqProofs(disch:=omega)only[go_sem,A8,A5,ints,rows,A4,A6,A7,AB,vi]
  refine⟨_,.of (DQ (by omega) (hg.rep tj _) im),?_⟩;try simp-dsimp-implicitDefEqProofs(disch:=omega)only[go_sem,A8,A5,ints,rows,A4,A6,A7,AB,vi]
  apply hN;refine AW.cond rfl ?_ ?_<;>intro h2
  ·try simp only[cn]at h2
   refine sQ fun N hN=>?_;simp-dsimp-implicitDefEqProofs(disch:=omega)only[go_sem,A8,A5,ints,rows,A4,A6,A7,AB,vi];apply hN;apply AW.ret;simp-dsimp-implicitDefEqProofs(disch:=omega)only[go_sem];refine⟨H,by have:=C7 (nx+1) (by omega);intro d cs hd;simp only[AU];grind,rfl,?_⟩
   exact FO.bad (by omega) (fun q=>h2 (q.pw j (by omega) (show j<os.length by omega)))
  try simp only[cn]at h2
  apply AW.skip;apply BQ;apply rQ;simp-dsimp-implicitDefEqProofs(disch:=omega)only[go_sem,A8,A5,ints,rows,A4,A6,A7,AB,vi];refine⟨j+1,?_,fun _ _ h=>h,?_,?_⟩
  ·simp(disch:=omega) [AO,AQ,sl,A5,AJ,ints,rows,A4,vi]<;>omega
  ·refine⟨by omega,fun k q1 q2=>?_⟩;by_cases e:k=j
   ·subst e;exact h2
   exact hI k q1 (by omega)
  first|omega|(simp only;omega)
 try simp only[cn]at h1
 have hI1:∀j,i<j→j<os.length→rep (M (pc os pw cj) (i+1)) ((pc os pw cj).cj i j) ((pc os pw cj).o j).toNat=DC (pc os pw cj) (M (pc os pw cj) (i+1)) i ((pc os pw cj).pw j):=fun k q1 q2=>hI k q1 (by omega)
 apply AW.exit;apply BC;refine AW.seq fun N4 CG=>?_;refine sQ fun N hN=>?_;simp-dsimp-implicitDefEqProofs(disch:=omega)only[go_sem,A8,A5,ints,rows,A4,A6,A7,AB,vi];apply hN;apply AW.block;refine AW.AF (α:=Nat) (fun x=>sl 188 [(1,.i .i64 i),(2,A5 os pw cj),(4,.q (nx+1) 0),(5,.i .i64 os.length),(6,.i .i64 i),(9,.i .i64 x)]) (fun _=>AU H (nx+1) (some [.i .i64 0,.i .i64 0,.i .i64 0,.i .i64 0])) (fun x m=>(i+1≤x∧x≤os.length)∧∀j k,i<j→j<x→j<k→k<os.length→M (pc os pw cj) (i+1) ((pc os pw cj).cj i k) ((pc os pw cj).cj i j)=M (pc os pw cj) (i+1) ((pc os pw cj).cj i j) (DC (pc os pw cj) (M (pc os pw cj) (i+1)) i ((pc os pw cj).cj j k))) (fun x=>os.length-x) (i+1) ?_ ?_ (fun _ _ h=>h) ?_
 ·exact⟨⟨Nat.le_refl _,hi⟩,by intro j k h1 h2;omega⟩
 ·simp(disch:=omega) [AO,AQ,sl,A5,ints,rows,A4,vi]
 skip
 rintro j m ⟨⟨oD,ZX⟩,hI⟩
 simp only[A5];simp-dsimp-implicitDefEqProofs(disch:=omega)only[go_sem];refine AW.seq fun N5 DW=>?_;refine sQ fun N hN=>?_;simp-dsimp-implicitDefEqProofs(disch:=omega)only[go_sem,A8,A5,ints,rows,A4,A6,A7,AB,vi];apply hN;refine AW.cond rfl ?_ ?_<;>intro h3
 ·try simp only[cn]at h3
  apply AW.skip;apply DW;refine AW.seq fun N6 HC=>?_;apply AW.block;refine sQ fun N hN=>?_;simp-dsimp-implicitDefEqProofs(disch:=omega)only[go_sem,A8,A5,ints,rows,A4,A6,A7,AB,vi];apply hN;apply AW.block;refine AW.AF (α:=Nat) (fun x=>sl 188 [(1,.i .i64 i),(2,A5 os pw cj),(4,.q (nx+1) 0),(5,.i .i64 os.length),(6,.i .i64 i),(9,.i .i64 j),(10,.i .i64 x)]) (fun _=>AU H (nx+1) (some [.i .i64 0,.i .i64 0,.i .i64 0,.i .i64 0])) (fun x m=>(j+1≤x∧x≤os.length)∧∀k,j<k→k<x→M (pc os pw cj) (i+1) ((pc os pw cj).cj i k) ((pc os pw cj).cj i j)=M (pc os pw cj) (i+1) ((pc os pw cj).cj i j) (DC (pc os pw cj) (M (pc os pw cj) (i+1)) i ((pc os pw cj).cj j k))) (fun x=>os.length-x) (j+1) ?_ ?_ (fun _ _ h=>h) ?_
  ·exact⟨⟨Nat.le_refl _,by omega⟩,by intro k h1 h2;omega⟩
  ·simp(disch:=omega) [AO,AQ,sl,A5,ints,rows,A4,vi]
  skip
  rintro k m ⟨⟨RW,EX⟩,hK⟩;simp only[A5];simp-dsimp-implicitDefEqProofs(disch:=omega)only[go_sem];refine AW.seq fun N7 JO=>?_;refine sQ fun N hN=>?_;simp-dsimp-implicitDefEqProofs(disch:=omega)only[go_sem,A8,A5,ints,rows,A4,A6,A7,AB,vi];apply hN;refine AW.cond rfl ?_ ?_<;>intro h4
  ·try simp only[cn]at h4
   have ej:((j:Int)-i-1).toNat=j-i-1:=by omega
   have ek:((k:Int)-i-1).toNat=k-i-1:=by omega
   have Hp:((k:Int)-j-1).toNat=k-j-1:=by omega
   have e1:AV.v ((cj.getD i []).getD (j-i-1) []).length (List.map (AV.i IntKind.i64) ((cj.getD i []).getD (j-i-1) []))=vi os.length ((pc os pw cj).cj i j):=CN (h.mY (by omega) (by omega));have e3:AV.v ((cj.getD i []).getD (k-i-1) []).length (List.map (AV.i IntKind.i64) ((cj.getD i []).getD (k-i-1) []))=vi os.length ((pc os pw cj).cj i k):=CN (h.mY (by omega) (by omega));have e4:AV.v ((cj.getD j []).getD (k-j-1) []).length (List.map (AV.i IntKind.i64) ((cj.getD j []).getD (k-j-1) []))=vi os.length ((pc os pw cj).cj j k):=CN (h.mY (by omega) (by omega));have A1G:=(h.2.2.2 j (by omega)).2.1;have tj:=hv.cj i j (by omega) (show j<os.length by omega);have tk:=hv.cj i k (by omega) (show k<os.length by omega);have tjk:=(hv.cj j k (by omega) (show k<os.length by omega)).mono hv (show i+1≤j+1 by omega);apply AW.skip;apply JO;refine AW.seq fun N8 JJ=>?_;apply AW.block;refine AW.seq fun N hN=>?_;refine AW.BI A9 (by kernel_rfl) 24 (by kernel_rfl) ?_
   simp-dsimp-implicitDefEqProofs(disch:=omega)only[B3,B4,BH,List.take_succ_cons,List.take_zero,List.drop_succ_cons,List.drop_zero,List.take_nil,List.drop_nil,go_sem,undef,A8,A5,ints,rows,A4,A6,A7,AB,AJ,vi,ej,ek,e1,e3];apply hN;refine AW.seq fun N hN=>?_;refine AW.BI A9 (by kernel_rfl) 15 (by kernel_rfl) ?_
   simp-dsimp-implicitDefEqProofs(disch:=omega)only[B3,B4,BH,List.take_succ_cons,List.take_zero,List.drop_succ_cons,List.drop_zero,List.take_nil,List.drop_nil,go_sem,undef,A8,A5,ints,rows,A4,A6,A7,AB,AJ,vi,Hp];rw[e4];refine⟨_,.of (EF os pw cj h i hi _ tjk),?_⟩;try simp-dsimp-implicitDefEqProofs(disch:=omega)only[go_sem,A8,A5,ints,rows,A4,A6,A7,AB,vi]
   apply hN;refine AW.seq fun N hN=>?_;refine AW.BI A9 (by kernel_rfl) 14 (by kernel_rfl) ?_
   simp-dsimp-implicitDefEqProofs(disch:=omega)only[B3,B4,BH,List.take_succ_cons,List.take_zero,List.drop_succ_cons,List.drop_zero,List.take_nil,List.drop_nil,go_sem,undef,A8,A5,ints,rows,A4,A6,A7,AB,AJ,vi];refine⟨_,.of (EK os pw cj h i hi _ _ tk tj),?_⟩;try simp-dsimp-implicitDefEqProofs(disch:=omega)only[go_sem,A8,A5,ints,rows,A4,A6,A7,AB,vi]
   refine⟨_,.of (EK os pw cj h i hi _ _ tj im),?_⟩;try simp-dsimp-implicitDefEqProofs(disch:=omega)only[go_sem,A8,A5,ints,rows,A4,A6,A7,AB,vi]
   refine⟨_,.of (DQ (by omega) (hg.cl tk tj) (hg.cl tj im)),?_⟩;try simp-dsimp-implicitDefEqProofs(disch:=omega)only[go_sem,A8,A5,ints,rows,A4,A6,A7,AB,vi]
   apply hN;refine AW.cond rfl ?_ ?_<;>intro h5
   ·(try simp only[cn]at h5);refine sQ fun N hN=>?_;simp-dsimp-implicitDefEqProofs(disch:=omega)only[go_sem,A8,A5,ints,rows,A4,A6,A7,AB,vi];apply hN;apply AW.ret;simp-dsimp-implicitDefEqProofs(disch:=omega)only[go_sem];refine⟨H,by have:=C7 (nx+1) (by omega);intro d cs hd;simp only[AU];grind,rfl,?_⟩
    exact FO.bad (by omega) (fun q=>h5 (q.cj j k (by omega) (by omega) (show k<os.length by omega)))
   try simp only[cn]at h5
   apply AW.skip;apply JJ;apply rQ;simp-dsimp-implicitDefEqProofs(disch:=omega)only[go_sem,A8,A5,ints,rows,A4,A6,A7,AB,vi];refine⟨k+1,?_,fun _ _ h=>h,?_,?_⟩
   ·simp(disch:=omega) [AO,AQ,sl,A5,AJ,ints,rows,A4,vi]<;>omega
   ·refine⟨by omega,fun t q1 q2=>?_⟩;by_cases e:t=k
    ·subst e;exact h5
    exact hK t q1 (by omega)
   first|omega|(simp only;omega)
  try simp only[cn]at h4
  apply AW.exit;apply HC;apply rQ;simp-dsimp-implicitDefEqProofs(disch:=omega)only[go_sem,A8,A5,ints,rows,A4,A6,A7,AB,vi];refine⟨j+1,?_,fun _ _ h=>h,?_,?_⟩
  ·simp(disch:=omega) [AO,AQ,sl,A5,AJ,ints,rows,A4,vi]<;>omega
  ·refine⟨by omega,fun t k' q1 q2 q3 q4=>?_⟩;by_cases e:t=j
   ·subst e;exact hK k' q3 (by omega)
   exact hI t k' q1 (by omega) q3 q4
  first|omega|(simp only;omega)
 try simp only[cn]at h3
 have Sa:∀j k,i<j→j<k→k<os.length→M (pc os pw cj) (i+1) ((pc os pw cj).cj i k) ((pc os pw cj).cj i j)=M (pc os pw cj) (i+1) ((pc os pw cj).cj i j) (DC (pc os pw cj) (M (pc os pw cj) (i+1)) i ((pc os pw cj).cj j k)):=fun t k q1 q2 q3=>hI t k q1 (by omega) q2 q3
 apply AW.exit;apply CG;refine sQ fun N hN=>?_;simp-dsimp-implicitDefEqProofs(disch:=omega)only[go_sem,A8,A5,ints,rows,A4,A6,A7,AB,vi,e2];apply hN;refine AW.seq fun N9 M6=>?_;refine sQ fun N hN=>?_;simp-dsimp-implicitDefEqProofs(disch:=omega)only[go_sem,A8,A5,ints,rows,A4,A6,A7,AB,vi];refine AC.pure (.of (EF os pw cj h i hi _ (hv.pw i hi))) ?_;try simp-dsimp-implicitDefEqProofs(disch:=omega)only[go_sem,A8,A5,ints,rows,A4,A6,A7,AB,vi]
 refine AC.pure (.of (DQ (by omega) im (hv.pw i hi))) ?_;try simp-dsimp-implicitDefEqProofs(disch:=omega)only[go_sem,A8,A5,ints,rows,A4,A6,A7,AB,vi]
 apply hN;refine AW.cond rfl ?_ ?_<;>intro h6
 ·try simp only[cn]at h6
  refine sQ fun N hN=>?_;simp-dsimp-implicitDefEqProofs(disch:=omega)only[go_sem,A8,A5,ints,rows,A4,A6,A7,AB,vi];apply hN;apply AW.ret;simp-dsimp-implicitDefEqProofs(disch:=omega)only[go_sem];refine⟨H,by have:=C7 (nx+1) (by omega);intro d cs hd;simp only[AU];grind,rfl,?_⟩
  exact FO.bad (by omega) (fun q=>h6 q.fx)
 try simp only[cn]at h6
 apply AW.skip;apply M6;refine AW.seq fun lF FW=>?_;refine sQ fun N hN=>?_;simp-dsimp-implicitDefEqProofs(disch:=omega)only[go_sem,A8,A5,ints,rows,A4,A6,A7,AB,vi];apply hN;apply AW.block;refine AW.AF (α:=Nat) (fun x=>sl 188 [(1,.i .i64 i),(2,A5 os pw cj),(4,.q (nx+1) 0),(5,.i .i64 os.length),(6,.i .i64 i),(14,vi os.length ((pc os pw cj).pw i)),(15,.i .i64 x)]) (fun _=>AU H (nx+1) (some [.i .i64 0,.i .i64 0,.i .i64 0,.i .i64 0])) (fun x m=>(i+1≤x∧x≤os.length)∧∀j,i<j→j<x→M (pc os pw cj) (i+1) ((pc os pw cj).pw i) (CW (DC (pc os pw cj) (M (pc os pw cj) (i+1)) i) ((pc os pw cj).o i).toNat (un j))=M (pc os pw cj) (i+1) (un j) ((pc os pw cj).pw i)) (fun x=>os.length-x) (i+1) ?_ ?_ (fun _ _ h=>h) ?_
 ·exact⟨⟨Nat.le_refl _,hi⟩,by intro j h1 h2;omega⟩
 ·simp(disch:=omega) [AO,AQ,sl,A5,ints,rows,A4,vi]
 skip
 rintro j m ⟨⟨oD,ZX⟩,hI⟩
 simp only[A5,vi];simp-dsimp-implicitDefEqProofs(disch:=omega)only[go_sem];refine AW.seq fun p5 HI=>?_;refine sQ fun N hN=>?_;simp-dsimp-implicitDefEqProofs(disch:=omega)only[go_sem,A8,A5,ints,rows,A4,A6,A7,AB,vi];apply hN;refine AW.cond rfl ?_ ?_<;>intro h7
 ·try simp only[cn]at h7
  have tu:=lB hv (show i+1≤j by omega) (show j<os.length by omega);have UA:=h.o7 hi;have Ho:(pc os pw cj).o i=os.getD i 0:=rfl;apply AW.skip;apply HI;refine AW.seq fun wX KG=>?_;apply AW.block;refine sQ fun N hN=>?_;simp-dsimp-implicitDefEqProofs(disch:=omega)only[go_sem,A8,A5,ints,rows,A4,A6,A7,AB,vi];refine AC.pure (.of (S8 os.length j (by omega) (by omega))) ?_;try simp-dsimp-implicitDefEqProofs(disch:=omega)only[go_sem,A8,A5,ints,rows,A4,A6,A7,AB,vi]
  apply hN;refine sQ fun N hN=>?_;simp-dsimp-implicitDefEqProofs(disch:=omega)only[go_sem,A8,A5,ints,rows,A4,A6,A7,AB,vi];apply hN;refine AW.seq fun Hq NI=>?_;refine sQ fun N hN=>?_;simp-dsimp-implicitDefEqProofs(disch:=omega)only[go_sem,A8,A5,ints,rows,A4,A6,A7,AB,vi];apply hN;apply AW.block;refine AW.AF (α:=Nat×V) (fun x=>sl 188 [(1,.i .i64 i),(2,A5 os pw cj),(4,.q (nx+1) 0),(5,.i .i64 os.length),(6,.i .i64 i),(14,vi os.length ((pc os pw cj).pw i)),(15,.i .i64 j),(16,vi os.length (un j)),(17,vi os.length x.2),(18,.i .i64 x.1)]) (fun _=>AU H (nx+1) (some [.i .i64 0,.i .i64 0,.i .i64 0,.i .i64 0])) (fun x m=>x.1≤(os.getD i 0).toNat∧T (pc os pw cj) (i+1) x.2∧x.2=CW (DC (pc os pw cj) (M (pc os pw cj) (i+1)) i) x.1 (un j)) (fun x=>(os.getD i 0).toNat-x.1) ((0,un j)) ?_ ?_ (fun _ _ h=>h) ?_
  ·exact⟨Nat.zero_le _,tu,rfl⟩
  ·simp(disch:=omega) [AO,AQ,sl,A5,ints,rows,A4,vi]
  skip
  rintro⟨q,w⟩ m ⟨hq,hw,he⟩;dsimp only at hq hw he;simp only[A5,vi];simp-dsimp-implicitDefEqProofs(disch:=omega)only[go_sem];refine AW.seq fun Mr R1=>?_;refine sQ fun N hN=>?_;simp-dsimp-implicitDefEqProofs(disch:=omega)only[go_sem,A8,A5,ints,rows,A4,A6,A7,AB,vi];apply hN;refine AW.cond rfl ?_ ?_<;>intro h8
  ·try simp only[cn]at h8
   apply AW.skip;apply R1;refine AW.seq fun Sb UH=>?_;apply AW.block;apply rQ;simp-dsimp-implicitDefEqProofs(disch:=omega)only[go_sem,A8,A5,ints,rows,A4,A6,A7,AB,vi];refine AC.pure (.of (EF os pw cj h i hi _ hw)) ?_;try simp-dsimp-implicitDefEqProofs(disch:=omega)only[go_sem,A8,A5,ints,rows,A4,A6,A7,AB,vi]
   apply UH;apply rQ;simp-dsimp-implicitDefEqProofs(disch:=omega)only[go_sem,A8,A5,ints,rows,A4,A6,A7,AB,vi];refine⟨(q+1,DC (pc os pw cj) (M (pc os pw cj) (i+1)) i w),?_,fun _ _ h=>h,?_,?_⟩
   ·simp(disch:=omega) [AO,AQ,sl,A5,AJ,ints,rows,A4,vi]<;>omega
   ·exact⟨by first|omega|(dsimp only;omega),im,by rw[he];rfl⟩
   first|omega|(simp only;omega)
  try simp only[cn]at h8
  obtain rfl:q=(os.getD i 0).toNat:=by omega
  apply AW.exit;apply NI;refine AW.seq fun N hN=>?_;refine AW.BI A9 (by kernel_rfl) 14 (by kernel_rfl) ?_
  simp-dsimp-implicitDefEqProofs(disch:=omega)only[B3,B4,BH,List.take_succ_cons,List.take_zero,List.drop_succ_cons,List.drop_zero,List.take_nil,List.drop_nil,go_sem,undef,A8,A5,ints,rows,A4,A6,A7,AB,AJ,vi];refine⟨_,.of (EK os pw cj h i hi _ _ (hv.pw i hi) hw),?_⟩;try simp-dsimp-implicitDefEqProofs(disch:=omega)only[go_sem,A8,A5,ints,rows,A4,A6,A7,AB,vi]
  refine⟨_,.of (EK os pw cj h i hi _ _ tu (hv.pw i hi)),?_⟩;try simp-dsimp-implicitDefEqProofs(disch:=omega)only[go_sem,A8,A5,ints,rows,A4,A6,A7,AB,vi]
  refine⟨_,.of (DQ (by omega) (hg.cl (hv.pw i hi) hw) (hg.cl tu (hv.pw i hi))),?_⟩;try simp-dsimp-implicitDefEqProofs(disch:=omega)only[go_sem,A8,A5,ints,rows,A4,A6,A7,AB,vi]
  apply hN;refine AW.cond rfl ?_ ?_<;>intro h9
  ·try simp only[cn]at h9
   refine sQ fun N hN=>?_;simp-dsimp-implicitDefEqProofs(disch:=omega)only[go_sem,A8,A5,ints,rows,A4,A6,A7,AB,vi];apply hN;apply AW.ret;simp-dsimp-implicitDefEqProofs(disch:=omega)only[go_sem];refine⟨H,by have:=C7 (nx+1) (by omega);intro d cs hd;simp only[AU];grind,rfl,?_⟩
   rw[he]at h9;exact FO.bad (by omega) (fun q=>h9 (q.Mp j (by omega) (show j<os.length by omega)))
  try simp only[cn]at h9
  apply AW.skip;apply KG;apply rQ;simp-dsimp-implicitDefEqProofs(disch:=omega)only[go_sem,A8,A5,ints,rows,A4,A6,A7,AB,vi];refine⟨j+1,?_,fun _ _ h=>h,?_,?_⟩
  ·simp(disch:=omega) [AO,AQ,sl,A5,AJ,ints,rows,A4,vi]<;>omega
  ·refine⟨by omega,fun k q1 q2=>?_⟩;by_cases e:k=j
   ·subst e;rw[he]at h9;exact h9
   exact hI k q1 (by omega)
  first|omega|(simp only;omega)
 try simp only[cn]at h7
 apply AW.exit;apply FW;refine sQ fun N hN=>?_;simp-dsimp-implicitDefEqProofs(disch:=omega)only[go_sem,A8,A5,ints,rows,A4,A6,A7,AB,vi];apply hN;apply AW.ret;simp-dsimp-implicitDefEqProofs(disch:=omega)only[go_sem];refine⟨H,by have:=C7 (nx+1) (by omega);intro d cs hd;simp only[AU];grind,rfl,?_⟩
 exact FO.Ry ⟨fun j q1 q2=>hI1 j q1 q2,fun j k q1 q2 q3=>Sa j k q1 q2 q3,h6,fun j q1 q2=>hI j q1 (by have:j<os.length:=q2;omega)⟩
end Go.Proofs.YtghmeeifjeafmaaGreat
namespace Go.Proofs.YtghmeeifjeafmaaGreat
theorem R2(os:List Int)(pw:List (List Int))(cj:List (List (List Int)))(h:AI os pw cj)(nx:Nat)(H:HP):AC Tryz.prog 130 nx H [A8 os pw cj] (fun nx' H' r=>H'=H∧FO (DI (pc os pw cj) 0) r):=by
 have hv:=h.val
 have J4:=h.1.1
 refine AC.C2 A9 Tryz.func130 rfl (by kernel_rfl) Tryz.ntmps130 Tryz.results130 (fun C7 cX=>?_)
 refine sQ fun N hN=>?_;simp-dsimp-implicitDefEqProofs(disch:=omega)only[go_sem,A8,A5,ints,rows,A4];apply hN;refine AW.seq fun N1 BC=>?_;refine AW.B5 1 nx _ rfl ((A0 _ _ (by omega)).trans (A1 _ _ _)) ?_
 simp-dsimp-implicitDefEqProofs(disch:=omega)only[go_sem];refine sQ fun N hN=>?_;simp-dsimp-implicitDefEqProofs(disch:=omega)only[go_sem,A8,A5,ints,rows,A4];apply hN;apply AW.block;refine AW.AF (α:=Nat) (fun x=>sl 21 [(1,A5 os pw cj),(2,.q (nx+1) 0),(3,.i .i64 ((x:Int)-1))]) (fun _=>AU H (nx+1) (some [.i .i64 0,.i .i64 0,.i .i64 0,.i .i64 0])) (fun x m=>(x≤os.length∧nx+2≤m)∧DI (pc os pw cj) x) (fun x=>x) (os.length) ?_ ?_ (by have:=C7 nx (Nat.le_refl _);intro d cs hd;simp only[AU]at hd ⊢;grind) ?_
 ·exact⟨⟨Nat.le_refl _,by first|omega|(dsimp only;omega)⟩,fun i h1 h2=>absurd h2 (by have:(pc os pw cj).n=os.length:=rfl;omega)⟩
 ·simp(disch:=omega) [AO,AQ,sl,A5,ints,rows,A4]
 skip
 rintro x m ⟨⟨hx,hm⟩,hI⟩
 simp only[A5];simp-dsimp-implicitDefEqProofs(disch:=omega)only[go_sem];refine AW.seq fun N2 BM=>?_;refine sQ fun N hN=>?_;simp-dsimp-implicitDefEqProofs(disch:=omega)only[go_sem,A8,A5,ints,rows,A4];apply hN;refine AW.cond rfl ?_ ?_<;>intro h1
 ·try simp only[cn]at h1
  obtain⟨i,rfl⟩:∃i,x=i+1:=⟨x-1,by omega⟩;rw[show((i+1:Nat):Int)-1=i by omega];apply AW.skip;apply BM;refine AW.seq fun N3 BQ=>?_;apply AW.block;refine sQ fun N hN=>?_;simp-dsimp-implicitDefEqProofs(disch:=omega)only[go_sem,A8,A5,ints,rows,A4];refine(QZ os pw cj h i (by omega) (BO hv hI) _ _).AG ?_
  rintro Mq H1 r1 mZ ⟨rfl,k,l,a,b,rfl,hk⟩;try simp-dsimp-implicitDefEqProofs(disch:=omega)only[go_sem,A8,A5,ints,rows,A4]
  apply hN;refine sQ fun N hN=>?_;simp-dsimp-implicitDefEqProofs(disch:=omega)only[go_sem,A8,A5,ints,rows,A4];apply hN;refine AW.cond rfl ?_ ?_<;>intro h2
  ·try simp only[cn]at h2
   refine sQ fun N hN=>?_;simp-dsimp-implicitDefEqProofs(disch:=omega)only[go_sem,A8,A5,ints,rows,A4];apply hN;apply AW.ret;simp-dsimp-implicitDefEqProofs(disch:=omega)only[go_sem];refine⟨H,by have q1:=C7 (nx+1) (by omega);have q2:=C7 (m+2+3) (by omega);intro d cs hd;simp only[AU];grind,rfl,FO.bad h2 (fun q=>h2 (hk.2 (q i (Nat.zero_le _) (show i<os.length by omega))))⟩
  try simp only[cn]at h2
  apply AW.skip;apply BQ;apply rQ;simp-dsimp-implicitDefEqProofs(disch:=omega)only[go_sem,A8,A5,ints,rows,A4];refine⟨i,?_,by have q1:=C7 (nx+1) (by omega);have q2:=C7 (m+2+3) (by omega);intro d cs hd;simp only[AU]at hd ⊢;grind,?_,?_⟩
  ·simp(disch:=omega) [AO,AQ,sl,AJ,ints,rows,A4,A8,A5,ints,rows,A4,AJ]<;>omega
  ·refine⟨⟨by first|omega|(dsimp only;omega),by first|omega|(dsimp only;omega)⟩,fun t q1 q2=>?_⟩;by_cases e:t=i
   ·subst e;exact hk.1 h2
   exact hI t (by omega) q2
  first|omega|(simp only;omega)
 try simp only[cn]at h1
 apply AW.exit;apply BC;refine sQ fun N hN=>?_;simp-dsimp-implicitDefEqProofs(disch:=omega)only[go_sem,A8,A5,ints,rows,A4];apply hN;apply AW.ret;simp-dsimp-implicitDefEqProofs(disch:=omega)only[go_sem];obtain rfl:x=0:=by omega
 exact⟨H,by have q1:=C7 (nx+1) (by omega);intro d cs hd;simp only[AU];grind,rfl,FO.Ry hI⟩
theorem L8(os:List Int)(pw:List (List Int))(cj:List (List (List Int)))(h:AI os pw cj):BG Tryz.prog 86 [A8 os pw cj] (.b (tf (DI (pc os pw cj) 0))):=by
 refine BG.AM A9 Tryz.func86 rfl (by kernel_rfl) Tryz.ntmps86 Tryz.results86 (.b _) (fun nx cX=>?_)
 refine sQ fun N hN=>?_;simp-dsimp-implicitDefEqProofs(disch:=omega)only[go_sem,A8,A5,ints,rows,A4];apply hN;refine sQ fun N hN=>?_;simp-dsimp-implicitDefEqProofs(disch:=omega)only[go_sem,A8,A5,ints,rows,A4];refine(R2 os pw cj h _ _).AG ?_
 rintro Mq H1 r1 mZ ⟨rfl,k,l,a,b,rfl,hk⟩
 try simp-dsimp-implicitDefEqProofs(disch:=omega)only[go_sem,A8,A5,ints,rows,A4]
 apply hN;apply AW.ret;simp-dsimp-implicitDefEqProofs(disch:=omega)only[go_sem];exact bt (by rw[←RX hk];by_cases q:k=0<;>simp[q,tf])
theorem R3(os:List Int)(pw:List (List Int))(cj:List (List (List Int)))(hl:GX os pw cj):BG Tryz.prog 46 [A8 os pw cj] (.b (tf (AI os pw cj∧DI (pc os pw cj) 0))):=by
 refine BG.AM A9 Tryz.func46 rfl (by kernel_rfl) Tryz.ntmps46 Tryz.results46 (.b _) (fun nx cX=>?_)
 refine sQ fun N hN=>?_;simp-dsimp-implicitDefEqProofs(disch:=omega)only[go_sem,A8,ints,rows,A4];apply hN;refine sQ fun N hN=>?_;simp-dsimp-implicitDefEqProofs(disch:=omega)only[go_sem,A8,ints,rows,A4];refine AC.pure (.of (D5 os pw cj hl)) ?_;try simp-dsimp-implicitDefEqProofs(disch:=omega)only[go_sem,A8,ints,rows,A4]
 refine C9.mk' (fun h1=>?_) (fun h1=>?_)
 ·try simp only[cn]at h1
  try simp-dsimp-implicitDefEqProofs(disch:=omega)only[go_sem,A8,ints,rows,A4]
  refine AC.pure (.of (L8 os pw cj h1)) ?_;try simp-dsimp-implicitDefEqProofs(disch:=omega)only[go_sem,A8,ints,rows,A4]
  apply hN;apply AW.ret;simp-dsimp-implicitDefEqProofs(disch:=omega)only[go_sem];all_goals exact bt (RX ⟨fun q=>⟨h1,q⟩,fun q=>q.2⟩)
 try simp only[cn]at h1
 try simp-dsimp-implicitDefEqProofs(disch:=omega)only[go_sem,A8,ints,rows,A4]
 apply hN;apply AW.ret;simp-dsimp-implicitDefEqProofs(disch:=omega)only[go_sem];all_goals exact bt (CE (fun q=>h1 q.1)).symm
end Go.Proofs.YtghmeeifjeafmaaGreat
