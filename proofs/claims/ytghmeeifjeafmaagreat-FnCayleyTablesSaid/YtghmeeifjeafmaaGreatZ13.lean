import Derived.Test.YtghmeeifjeafmaaGreatZ07
import Derived.Test.YtghmeeifjeafmaaGreatZ08
import Derived.Test.YtghmeeifjeafmaaGreatZ12
set_option linter.unusedVariables false
set_option linter.unusedSimpArgs false
namespace Go.Proofs.YtghmeeifjeafmaaGreat
def FT(p:Prop)(r:AV):Prop:=(p∧r= .g [.i .i64 0,.i .i64 0,.i .i64 0,.i .i64 0])∨(¬p∧∃k l a b:Int,k≠0∧r= .g [.i .i64 k,.i .i64 l,.i .i64 a,.i .i64 b])
set_option maxRecDepth 20000 in
set_option maxHeartbeats 4000000 in
theorem OP(os:List Int)(pw:List (List Int))(cj:List (List (List Int)))(h:AI os pw cj)(i:Nat)(hi:i<os.length)(hc:DI (pc os pw cj) (i+1))(nx:Nat)(H:HP):AC Tryz.prog 111 nx H [A5 os pw cj,.i .i64 i] (fun nx' H' r=>H'=H∧FT (oU (pc os pw cj) i) r):=by
 have hv:=h.val
 have hg:=BO hv hc
 have J4:=h.1.1
 have XI:=h.1.2.1
 have E6:=h.1.2.2
 have UF:=(h.2.2.2 i hi).2.1
 have e2:AV.v (pw.getD i []).length (List.map (AV.i IntKind.i64) (pw.getD i []))=vi os.length ((pc os pw cj).pw i):=CN (h.Hn hi)
 have im:=fun {a:V}=>RY (P:=pc os pw cj) (i:=i) hv (fun _ _=>TF hv) a
 refine AC.C2 A9 Tryz.func111 rfl (by kernel_rfl) Tryz.ntmps111 Tryz.results111 (fun C7 cX=>?_)
 refine sQ fun N hN=>?_;simp-dsimp-implicitDefEqProofs(disch:=omega)only[go_sem,A5,ints,rows,A4,A6,A7,AB,vi];apply hN;refine sQ fun N hN=>?_;simp-dsimp-implicitDefEqProofs(disch:=omega)only[go_sem,A5,ints,rows,A4,A6,A7,AB,vi];apply hN;refine sQ fun N hN=>?_;simp-dsimp-implicitDefEqProofs(disch:=omega)only[go_sem,A5,ints,rows,A4,A6,A7,AB,vi];apply hN;refine AW.seq fun N1 BC=>?_;refine sQ fun N hN=>?_;simp-dsimp-implicitDefEqProofs(disch:=omega)only[go_sem,A5,ints,rows,A4,A6,A7,AB,vi];apply hN;apply AW.block;refine AW.AF (α:=Nat) (fun x=>sl 180 [(0,A5 os pw cj),(1,.i .i64 i),(4,.q nx 0),(5,.i .i64 os.length),(6,.i .i64 i),(7,.i .i64 x)]) (fun _=>AU H nx (some [.i .i64 0,.i .i64 0,.i .i64 0,.i .i64 0])) (fun x m=>(i+1≤x∧x≤os.length)∧∀j,i<j→j<x→rep (M (pc os pw cj) (i+1)) ((pc os pw cj).cj i j) ((pc os pw cj).o j).toNat=DC (pc os pw cj) (M (pc os pw cj) (i+1)) i ((pc os pw cj).pw j)) (fun x=>os.length-x) (i+1) ?_ ?_ (fun _ _ h=>h) ?_
 ·exact⟨⟨Nat.le_refl _,hi⟩,by intro j h1 h2;omega⟩
 ·simp(disch:=omega) [AO,AQ,sl,A5,ints,rows,A4,vi]
 skip
 rintro j m ⟨⟨oD,ZX⟩,hI⟩
 simp only[A5];simp-dsimp-implicitDefEqProofs(disch:=omega)only[go_sem];refine AW.seq fun N2 BM=>?_;refine sQ fun N hN=>?_;simp-dsimp-implicitDefEqProofs(disch:=omega)only[go_sem,A5,ints,rows,A4,A6,A7,AB,vi];apply hN;refine AW.cond rfl ?_ ?_<;>intro h1
 ·try simp only[cn]at h1
  have ej:((j:Int)-i-1).toNat=j-i-1:=by omega
  have e1:AV.v ((cj.getD i []).getD (j-i-1) []).length (List.map (AV.i IntKind.i64) ((cj.getD i []).getD (j-i-1) []))=vi os.length ((pc os pw cj).cj i j):=CN (h.mY (by omega) (by omega));have e3:AV.v (pw.getD j []).length (List.map (AV.i IntKind.i64) (pw.getD j []))=vi os.length ((pc os pw cj).pw j):=CN (h.Hn (by omega));have vW:=h.o7 (show j<os.length by omega);have Rz:(pc os pw cj).o j=os.getD j 0:=rfl;have tj:=hv.cj i j (by omega) (show j<os.length by omega);have tp:=(hv.pw j (show j<os.length by omega)).mono hv (show i+1≤j+1 by omega);apply AW.skip;apply BM;refine AW.seq fun N3 BQ=>?_;apply AW.block;refine AW.seq fun N hN=>?_;refine AW.BI A9 (by kernel_rfl) 34 (by kernel_rfl) ?_
  simp-dsimp-implicitDefEqProofs(disch:=omega)only[B3,B4,BH,List.take_succ_cons,List.take_zero,List.drop_succ_cons,List.drop_zero,List.take_nil,List.drop_nil,go_sem,undef,A5,ints,rows,A4,A6,A7,AB,AJ,vi,ej];rw[e1];refine⟨_,.of (HU h (i+1) hc _ tj _ (by omega) (by omega)),?_⟩;try simp-dsimp-implicitDefEqProofs(disch:=omega)only[go_sem,A5,ints,rows,A4,A6,A7,AB,vi]
  rw[e3];refine⟨_,.of ((FA os pw cj h i hi hc _ tp).pure),?_⟩;try simp-dsimp-implicitDefEqProofs(disch:=omega)only[go_sem,A5,ints,rows,A4,A6,A7,AB,vi]
  refine⟨_,.of (D7 (by omega) (hg.rep tj _) im),?_⟩;try simp-dsimp-implicitDefEqProofs(disch:=omega)only[go_sem,A5,ints,rows,A4,A6,A7,AB,vi]
  apply hN;refine AW.cond rfl ?_ ?_<;>intro h2
  ·try simp only[cn]at h2
   refine sQ fun N hN=>?_;simp-dsimp-implicitDefEqProofs(disch:=omega)only[go_sem,A5,ints,rows,A4,A6,A7,AB,vi];apply hN;apply AW.ret;simp-dsimp-implicitDefEqProofs(disch:=omega)only[go_sem];refine⟨H,by have:=C7 nx (by omega);intro d cs hd;simp only[AU];grind,rfl,?_⟩
   exact .inr ⟨fun q=>h2 (q.pw j (by omega) (show j<os.length by omega)),_,_,_,_,by omega,rfl⟩
  try simp only[cn]at h2
  apply AW.skip;apply BQ;apply rQ;simp-dsimp-implicitDefEqProofs(disch:=omega)only[go_sem,A5,ints,rows,A4,A6,A7,AB,vi];refine⟨j+1,?_,fun _ _ h=>h,?_,?_⟩
  ·simp(disch:=omega) [AO,AQ,sl,A5,AJ,ints,rows,A4,vi]<;>omega
  ·refine⟨by omega,fun k q1 q2=>?_⟩;by_cases e:k=j
   ·subst e;exact h2
   exact hI k q1 (by omega)
  first|omega|(simp only;omega)
 try simp only[cn]at h1
 have hI1:∀j,i<j→j<os.length→rep (M (pc os pw cj) (i+1)) ((pc os pw cj).cj i j) ((pc os pw cj).o j).toNat=DC (pc os pw cj) (M (pc os pw cj) (i+1)) i ((pc os pw cj).pw j):=fun k q1 q2=>hI k q1 (by omega)
 apply AW.exit;apply BC;refine AW.seq fun N4 CG=>?_;refine sQ fun N hN=>?_;simp-dsimp-implicitDefEqProofs(disch:=omega)only[go_sem,A5,ints,rows,A4,A6,A7,AB,vi];apply hN;apply AW.block;refine AW.AF (α:=Nat) (fun x=>sl 180 [(0,A5 os pw cj),(1,.i .i64 i),(4,.q nx 0),(5,.i .i64 os.length),(6,.i .i64 i),(8,.i .i64 x)]) (fun _=>AU H nx (some [.i .i64 0,.i .i64 0,.i .i64 0,.i .i64 0])) (fun x m=>(i+1≤x∧x≤os.length)∧∀j k,i<j→j<x→j<k→k<os.length→M (pc os pw cj) (i+1) ((pc os pw cj).cj i k) ((pc os pw cj).cj i j)=M (pc os pw cj) (i+1) ((pc os pw cj).cj i j) (DC (pc os pw cj) (M (pc os pw cj) (i+1)) i ((pc os pw cj).cj j k))) (fun x=>os.length-x) (i+1) ?_ ?_ (fun _ _ h=>h) ?_
 ·exact⟨⟨Nat.le_refl _,hi⟩,by intro j k h1 h2;omega⟩
 ·simp(disch:=omega) [AO,AQ,sl,A5,ints,rows,A4,vi]
 skip
 rintro j m ⟨⟨oD,ZX⟩,hI⟩
 simp only[A5];simp-dsimp-implicitDefEqProofs(disch:=omega)only[go_sem];refine AW.seq fun N5 DW=>?_;refine sQ fun N hN=>?_;simp-dsimp-implicitDefEqProofs(disch:=omega)only[go_sem,A5,ints,rows,A4,A6,A7,AB,vi];apply hN;refine AW.cond rfl ?_ ?_<;>intro h3
 ·try simp only[cn]at h3
  apply AW.skip;apply DW;refine AW.seq fun N6 HC=>?_;apply AW.block;refine sQ fun N hN=>?_;simp-dsimp-implicitDefEqProofs(disch:=omega)only[go_sem,A5,ints,rows,A4,A6,A7,AB,vi];apply hN;apply AW.block;refine AW.AF (α:=Nat) (fun x=>sl 180 [(0,A5 os pw cj),(1,.i .i64 i),(4,.q nx 0),(5,.i .i64 os.length),(6,.i .i64 i),(8,.i .i64 j),(9,.i .i64 x)]) (fun _=>AU H nx (some [.i .i64 0,.i .i64 0,.i .i64 0,.i .i64 0])) (fun x m=>(j+1≤x∧x≤os.length)∧∀k,j<k→k<x→M (pc os pw cj) (i+1) ((pc os pw cj).cj i k) ((pc os pw cj).cj i j)=M (pc os pw cj) (i+1) ((pc os pw cj).cj i j) (DC (pc os pw cj) (M (pc os pw cj) (i+1)) i ((pc os pw cj).cj j k))) (fun x=>os.length-x) (j+1) ?_ ?_ (fun _ _ h=>h) ?_
  ·exact⟨⟨Nat.le_refl _,by omega⟩,by intro k h1 h2;omega⟩
  ·simp(disch:=omega) [AO,AQ,sl,A5,ints,rows,A4,vi]
  skip
  rintro k m ⟨⟨RW,EX⟩,hK⟩;simp only[A5];simp-dsimp-implicitDefEqProofs(disch:=omega)only[go_sem];refine AW.seq fun N7 JO=>?_;refine sQ fun N hN=>?_;simp-dsimp-implicitDefEqProofs(disch:=omega)only[go_sem,A5,ints,rows,A4,A6,A7,AB,vi];apply hN;refine AW.cond rfl ?_ ?_<;>intro h4
  ·try simp only[cn]at h4
   have ej:((j:Int)-i-1).toNat=j-i-1:=by omega
   have ek:((k:Int)-i-1).toNat=k-i-1:=by omega
   have Hp:((k:Int)-j-1).toNat=k-j-1:=by omega
   have e1:AV.v ((cj.getD i []).getD (j-i-1) []).length (List.map (AV.i IntKind.i64) ((cj.getD i []).getD (j-i-1) []))=vi os.length ((pc os pw cj).cj i j):=CN (h.mY (by omega) (by omega));have e3:AV.v ((cj.getD i []).getD (k-i-1) []).length (List.map (AV.i IntKind.i64) ((cj.getD i []).getD (k-i-1) []))=vi os.length ((pc os pw cj).cj i k):=CN (h.mY (by omega) (by omega));have e4:AV.v ((cj.getD j []).getD (k-j-1) []).length (List.map (AV.i IntKind.i64) ((cj.getD j []).getD (k-j-1) []))=vi os.length ((pc os pw cj).cj j k):=CN (h.mY (by omega) (by omega));have A1G:=(h.2.2.2 j (by omega)).2.1;have tj:=hv.cj i j (by omega) (show j<os.length by omega);have tk:=hv.cj i k (by omega) (show k<os.length by omega);have tjk:=(hv.cj j k (by omega) (show k<os.length by omega)).mono hv (show i+1≤j+1 by omega);have tcc:=hg.cl (DY hg tj).1 (hg.cl tk tj);apply AW.skip;apply JO;refine AW.seq fun N8 JJ=>?_;apply AW.block;refine AW.seq fun N hN=>?_;refine AW.BI A9 (by kernel_rfl) 46 (by kernel_rfl) ?_
   simp-dsimp-implicitDefEqProofs(disch:=omega)only[B3,B4,BH,List.take_succ_cons,List.take_zero,List.drop_succ_cons,List.drop_zero,List.take_nil,List.drop_nil,go_sem,undef,A5,ints,rows,A4,A6,A7,AB,AJ,vi,ej,ek,Hp,e1,e3,e4];refine⟨_,.of ((FL os pw cj h (i+1) hc _ _ tk tj).pure),?_⟩;try simp-dsimp-implicitDefEqProofs(disch:=omega)only[go_sem,A5,ints,rows,A4,A6,A7,AB,vi]
   rw[show((k:Int)-j-1).toNat=k-j-1 from Hp,e4];refine⟨_,.of ((FA os pw cj h i hi hc _ tjk).pure),?_⟩;try simp-dsimp-implicitDefEqProofs(disch:=omega)only[go_sem,A5,ints,rows,A4,A6,A7,AB,vi]
   refine⟨_,.of (D7 (by omega) tcc im),?_⟩;try simp-dsimp-implicitDefEqProofs(disch:=omega)only[go_sem,A5,ints,rows,A4,A6,A7,AB,vi]
   apply hN;refine AW.cond rfl ?_ ?_<;>intro h5
   ·(try simp only[cn]at h5);refine sQ fun N hN=>?_;simp-dsimp-implicitDefEqProofs(disch:=omega)only[go_sem,A5,ints,rows,A4,A6,A7,AB,vi];apply hN;apply AW.ret;simp-dsimp-implicitDefEqProofs(disch:=omega)only[go_sem];refine⟨H,by have:=C7 nx (by omega);intro d cs hd;simp only[AU];grind,rfl,?_⟩
    exact .inr ⟨fun q=>h5 ((PQ hg tk tj im).2 (q.cj j k (by omega) (by omega) (show k<os.length by omega))),_,_,_,_,by omega,rfl⟩
   try simp only[cn]at h5
   apply AW.skip;apply JJ;apply rQ;simp-dsimp-implicitDefEqProofs(disch:=omega)only[go_sem,A5,ints,rows,A4,A6,A7,AB,vi];refine⟨k+1,?_,fun _ _ h=>h,?_,?_⟩
   ·simp(disch:=omega) [AO,AQ,sl,A5,AJ,ints,rows,A4,vi]<;>omega
   ·refine⟨by omega,fun t q1 q2=>?_⟩;by_cases e:t=k
    ·subst e;exact(PQ hg tk tj im).1 h5
    exact hK t q1 (by omega)
   first|omega|(simp only;omega)
  try simp only[cn]at h4
  apply AW.exit;apply HC;apply rQ;simp-dsimp-implicitDefEqProofs(disch:=omega)only[go_sem,A5,ints,rows,A4,A6,A7,AB,vi];refine⟨j+1,?_,fun _ _ h=>h,?_,?_⟩
  ·simp(disch:=omega) [AO,AQ,sl,A5,AJ,ints,rows,A4,vi]<;>omega
  ·refine⟨by omega,fun t k' q1 q2 q3 q4=>?_⟩;by_cases e:t=j
   ·subst e;exact hK k' q3 (by omega)
   exact hI t k' q1 (by omega) q3 q4
  first|omega|(simp only;omega)
 try simp only[cn]at h3
 have Sa:∀j k,i<j→j<k→k<os.length→M (pc os pw cj) (i+1) ((pc os pw cj).cj i k) ((pc os pw cj).cj i j)=M (pc os pw cj) (i+1) ((pc os pw cj).cj i j) (DC (pc os pw cj) (M (pc os pw cj) (i+1)) i ((pc os pw cj).cj j k)):=fun t k q1 q2 q3=>hI t k q1 (by omega) q2 q3
 apply AW.exit;apply CG;refine sQ fun N hN=>?_;simp-dsimp-implicitDefEqProofs(disch:=omega)only[go_sem,A5,ints,rows,A4,A6,A7,AB,vi,e2];apply hN;refine AW.seq fun N9 M6=>?_;refine sQ fun N hN=>?_;simp-dsimp-implicitDefEqProofs(disch:=omega)only[go_sem,A5,ints,rows,A4,A6,A7,AB,vi];refine AC.pure (.of ((FA os pw cj h i hi hc _ (hv.pw i hi)).pure)) ?_;try simp-dsimp-implicitDefEqProofs(disch:=omega)only[go_sem,A5,ints,rows,A4,A6,A7,AB,vi]
 refine AC.pure (.of (D7 (by omega) im (hv.pw i hi))) ?_;try simp-dsimp-implicitDefEqProofs(disch:=omega)only[go_sem,A5,ints,rows,A4,A6,A7,AB,vi]
 apply hN;refine AW.cond rfl ?_ ?_<;>intro h6
 ·try simp only[cn]at h6
  refine sQ fun N hN=>?_;simp-dsimp-implicitDefEqProofs(disch:=omega)only[go_sem,A5,ints,rows,A4,A6,A7,AB,vi];apply hN;apply AW.ret;simp-dsimp-implicitDefEqProofs(disch:=omega)only[go_sem];refine⟨H,by have:=C7 nx (by omega);intro d cs hd;simp only[AU];grind,rfl,?_⟩
  exact .inr ⟨fun q=>h6 q.fx,_,_,_,_,by omega,rfl⟩
 try simp only[cn]at h6
 apply AW.skip;apply M6;refine AW.seq fun lF FW=>?_;refine sQ fun N hN=>?_;simp-dsimp-implicitDefEqProofs(disch:=omega)only[go_sem,A5,ints,rows,A4,A6,A7,AB,vi];apply hN;apply AW.block;refine AW.AF (α:=Nat) (fun x=>sl 180 [(0,A5 os pw cj),(1,.i .i64 i),(4,.q nx 0),(5,.i .i64 os.length),(6,.i .i64 i),(10,vi os.length ((pc os pw cj).pw i)),(11,.i .i64 x)]) (fun _=>AU H nx (some [.i .i64 0,.i .i64 0,.i .i64 0,.i .i64 0])) (fun x m=>(i+1≤x∧x≤os.length)∧∀j,i<j→j<x→M (pc os pw cj) (i+1) ((pc os pw cj).pw i) (CW (DC (pc os pw cj) (M (pc os pw cj) (i+1)) i) ((pc os pw cj).o i).toNat (un j))=M (pc os pw cj) (i+1) (un j) ((pc os pw cj).pw i)) (fun x=>os.length-x) (i+1) ?_ ?_ (fun _ _ h=>h) ?_
 ·exact⟨⟨Nat.le_refl _,hi⟩,by intro j h1 h2;omega⟩
 ·simp(disch:=omega) [AO,AQ,sl,A5,ints,rows,A4,vi]
 skip
 rintro j m ⟨⟨oD,ZX⟩,hI⟩
 simp only[A5,vi];simp-dsimp-implicitDefEqProofs(disch:=omega)only[go_sem];refine AW.seq fun p5 HI=>?_;refine sQ fun N hN=>?_;simp-dsimp-implicitDefEqProofs(disch:=omega)only[go_sem,A5,ints,rows,A4,A6,A7,AB,vi];apply hN;refine AW.cond rfl ?_ ?_<;>intro h7
 ·try simp only[cn]at h7
  have tu:=lB hv (show i+1≤j by omega) (show j<os.length by omega);have UA:=h.o7 hi;have Ho:(pc os pw cj).o i=os.getD i 0:=rfl;apply AW.skip;apply HI;refine AW.seq fun wX KG=>?_;apply AW.block;refine sQ fun N hN=>?_;simp-dsimp-implicitDefEqProofs(disch:=omega)only[go_sem,A5,ints,rows,A4,A6,A7,AB,vi];refine AC.pure (.of (J5 os.length j (by omega) (by omega))) ?_;try simp-dsimp-implicitDefEqProofs(disch:=omega)only[go_sem,A5,ints,rows,A4,A6,A7,AB,vi]
  apply hN;refine AW.seq fun Hq NI=>?_;refine sQ fun N hN=>?_;simp-dsimp-implicitDefEqProofs(disch:=omega)only[go_sem,A5,ints,rows,A4,A6,A7,AB,vi];apply hN;apply AW.block;refine AW.AF (α:=Nat×V) (fun x=>sl 180 [(0,A5 os pw cj),(1,.i .i64 i),(4,.q nx 0),(5,.i .i64 os.length),(6,.i .i64 i),(10,vi os.length ((pc os pw cj).pw i)),(11,.i .i64 j),(12,vi os.length x.2),(159,.i .i64 (os.getD i 0)),(160,.i .i64 x.1)]) (fun _=>AU H nx (some [.i .i64 0,.i .i64 0,.i .i64 0,.i .i64 0])) (fun x m=>x.1≤(os.getD i 0).toNat∧T (pc os pw cj) (i+1) x.2∧x.2=CW (DC (pc os pw cj) (M (pc os pw cj) (i+1)) i) x.1 (un j)) (fun x=>(os.getD i 0).toNat-x.1) ((0,un j)) ?_ ?_ (fun _ _ h=>h) ?_
  ·exact⟨Nat.zero_le _,tu,rfl⟩
  ·simp(disch:=omega) [AO,AQ,sl,A5,ints,rows,A4,vi]
  skip
  rintro⟨q,w⟩ m ⟨hq,hw,he⟩;dsimp only at hq hw he;simp only[A5,vi];simp-dsimp-implicitDefEqProofs(disch:=omega)only[go_sem];refine sQ fun N hN=>?_;simp-dsimp-implicitDefEqProofs(disch:=omega)only[go_sem,A5,ints,rows,A4,A6,A7,AB,vi];apply hN;refine AW.seq fun Mr R1=>?_;refine AW.cond rfl ?_ ?_<;>intro h8
  ·try simp only[cn]at h8
   apply AW.skip;apply R1;refine AW.seq fun Sb UH=>?_;apply AW.block;apply rQ;simp-dsimp-implicitDefEqProofs(disch:=omega)only[go_sem,A5,ints,rows,A4,A6,A7,AB,vi];refine AC.pure (.of ((FA os pw cj h i hi hc _ hw).pure)) ?_;try simp-dsimp-implicitDefEqProofs(disch:=omega)only[go_sem,A5,ints,rows,A4,A6,A7,AB,vi]
   apply UH;apply rQ;simp-dsimp-implicitDefEqProofs(disch:=omega)only[go_sem,A5,ints,rows,A4,A6,A7,AB,vi];refine⟨(q+1,DC (pc os pw cj) (M (pc os pw cj) (i+1)) i w),?_,fun _ _ h=>h,?_,?_⟩
   ·simp(disch:=omega) [AO,AQ,sl,A5,AJ,ints,rows,A4,vi]<;>omega
   ·exact⟨by first|omega|(dsimp only;omega),im,by rw[he];rfl⟩
   first|omega|(simp only;omega)
  try simp only[cn]at h8
  obtain rfl:q=(os.getD i 0).toNat:=by omega
  have tp:=hv.pw i hi;have tcc:=hg.cl (DY hg tp).1 (hg.cl tu tp);apply AW.exit;apply NI;refine sQ fun N hN=>?_;simp-dsimp-implicitDefEqProofs(disch:=omega)only[go_sem,A5,ints,rows,A4,A6,A7,AB,vi];refine AC.pure (.of (J5 os.length j (by omega) (by omega))) ?_;try simp-dsimp-implicitDefEqProofs(disch:=omega)only[go_sem,A5,ints,rows,A4,A6,A7,AB,vi]
  refine AC.pure (.of ((FL os pw cj h (i+1) hc _ _ tu tp).pure)) ?_;try simp-dsimp-implicitDefEqProofs(disch:=omega)only[go_sem,A5,ints,rows,A4,A6,A7,AB,vi]
  refine AC.pure (.of (D7 (by omega) hw tcc)) ?_;try simp-dsimp-implicitDefEqProofs(disch:=omega)only[go_sem,A5,ints,rows,A4,A6,A7,AB,vi]
  apply hN;refine AW.cond rfl ?_ ?_<;>intro h9
  ·try simp only[cn]at h9
   refine sQ fun N hN=>?_;simp-dsimp-implicitDefEqProofs(disch:=omega)only[go_sem,A5,ints,rows,A4,A6,A7,AB,vi];apply hN;apply AW.ret;simp-dsimp-implicitDefEqProofs(disch:=omega)only[go_sem];refine⟨H,by have:=C7 nx (by omega);intro d cs hd;simp only[AU];grind,rfl,?_⟩
   rw[he]at h9;exact .inr ⟨fun q=>h9 ((PQ hg tu tp (he▸hw)).2 (q.Mp j (by omega) (show j<os.length by omega)).symm).symm,_,_,_,_,by omega,rfl⟩
  try simp only[cn]at h9
  apply AW.skip;apply KG;apply rQ;simp-dsimp-implicitDefEqProofs(disch:=omega)only[go_sem,A5,ints,rows,A4,A6,A7,AB,vi];refine⟨j+1,?_,fun _ _ h=>h,?_,?_⟩
  ·simp(disch:=omega) [AO,AQ,sl,A5,AJ,ints,rows,A4,vi]<;>omega
  ·refine⟨by omega,fun k q1 q2=>?_⟩;by_cases e:k=j
   ·subst e;rw[he]at h9;exact((PQ hg tu tp (he▸hw)).1 h9.symm).symm
   exact hI k q1 (by omega)
  first|omega|(simp only;omega)
 try simp only[cn]at h7
 apply AW.exit;apply FW;refine sQ fun N hN=>?_;simp-dsimp-implicitDefEqProofs(disch:=omega)only[go_sem,A5,ints,rows,A4,A6,A7,AB,vi];apply hN;apply AW.ret;simp-dsimp-implicitDefEqProofs(disch:=omega)only[go_sem];refine⟨H,by have:=C7 nx (by omega);intro d cs hd;simp only[AU];grind,rfl,?_⟩
 exact .inl ⟨⟨fun j q1 q2=>hI1 j q1 q2,fun j k q1 q2 q3=>Sa j k q1 q2 q3,h6,fun j q1 q2=>hI j q1 (by have:j<os.length:=q2;omega)⟩,rfl⟩
theorem KI(os:List Int)(pw:List (List Int))(cj:List (List (List Int)))(h:AI os pw cj)(nx:Nat)(H:HP):AC Tryz.prog 72 nx H [A5 os pw cj] (fun _ H' r=>H=H'∧∃x:Nat,r= .i .i64 x∧(x=0↔DI (pc os pw cj) 0)):=by
 have hv:=h.val
 have J4:=h.1.1
 refine AC.C2 A9 Tryz.func72 rfl (by kernel_rfl) Tryz.ntmps72 Tryz.results72 (fun C7 cX=>?_)
 refine sQ fun N hN=>?_;simp-dsimp-implicitDefEqProofs(disch:=omega)only[go_sem,A5,ints,rows,A4];apply hN;refine sQ fun N hN=>?_;simp-dsimp-implicitDefEqProofs(disch:=omega)only[go_sem,A5,ints,rows,A4];apply hN;refine AW.seq fun N1 BC=>?_;apply AW.block;refine AW.AF (α:=Nat) (fun x=>sl 22 [(0,A5 os pw cj),(3,.i .i64 x)]) (fun _=>H) (fun x m=>x≤os.length∧DI (pc os pw cj) x) (fun x=>x) (os.length) ?_ ?_ (fun _ _ h=>h) ?_
 ·exact⟨Nat.le_refl _,fun i h1 h2=>absurd h2 (by have:(pc os pw cj).n=os.length:=rfl;omega)⟩
 ·simp(disch:=omega) [AO,AQ,sl,A5,ints,rows,A4]
 skip
 rintro x m ⟨hx,hI⟩
 simp only[A5];simp-dsimp-implicitDefEqProofs(disch:=omega)only[go_sem];refine AW.seq fun N2 BM=>?_;refine sQ fun N hN=>?_;simp-dsimp-implicitDefEqProofs(disch:=omega)only[go_sem,A5,ints,rows,A4];refine C9.mk' (fun h1=>?_) (fun h1=>?_)
 ·try simp only[cn]at h1
  obtain⟨i,rfl⟩:∃i,x=i+1:=⟨x-1,by omega⟩;try simp-dsimp-implicitDefEqProofs(disch:=omega)only[go_sem,A5,ints,rows,A4]
  rw[show((i+1:Nat):Int)-1=i by omega];refine(OP os pw cj h i (by omega) hI _ _).AG ?_;rintro m1 H1 r1 MW ⟨rfl,(⟨hC,rfl⟩|⟨hC,k,l,a,b,hk,rfl⟩)⟩
  ·skip
   try simp-dsimp-implicitDefEqProofs(disch:=omega)only[go_sem,]
   apply hN;refine AW.cond rfl ?_ ?_<;>intro h2
   ·(try simp only[cn]at h2);apply AW.skip;apply BM;apply AW.block;apply rQ;simp-dsimp-implicitDefEqProofs(disch:=omega)only[go_sem,A5,ints,rows,A4];refine⟨i,?_,fun _ _ h=>h,?_,?_⟩
    ·simp(disch:=omega) [AO,AQ,sl,A5,AJ,ints,rows,A4]<;>omega
    ·refine⟨by first|omega|(dsimp only;omega),fun t q1 q2=>?_⟩;by_cases e:t=i
     ·subst e;exact hC
     exact hI t (by omega) q2
    first|omega|(simp only;omega)
   try simp only[cn]at h2
   simp at h2
  skip
  try simp-dsimp-implicitDefEqProofs(disch:=omega)only[go_sem,]
  apply hN;refine AW.cond rfl ?_ ?_<;>intro h3
  ·try simp only[cn]at h3
   exact absurd h3.1 hk
  try simp only[cn]at h3
  apply AW.exit;apply BC;refine sQ fun N hN=>?_;simp-dsimp-implicitDefEqProofs(disch:=omega)only[go_sem,A5,ints,rows,A4];apply hN;apply AW.ret;simp-dsimp-implicitDefEqProofs(disch:=omega)only[go_sem];exact⟨_,Le.refl _,rfl,i+1,rfl,⟨fun q=>by omega,fun q=>absurd (q i (Nat.zero_le _) (show i<os.length by omega)) hC⟩⟩
 try simp only[cn]at h1
 try simp-dsimp-implicitDefEqProofs(disch:=omega)only[go_sem,A5,ints,rows,A4]
 apply hN;refine AW.C8 rfl ?_;apply AW.exit;apply BC;refine sQ fun N hN=>?_;simp-dsimp-implicitDefEqProofs(disch:=omega)only[go_sem,A5,ints,rows,A4];apply hN;apply AW.ret;simp-dsimp-implicitDefEqProofs(disch:=omega)only[go_sem];obtain rfl:x=0:=by omega
 exact⟨_,Le.refl _,rfl,0,rfl,⟨fun _=>hI,fun _=>rfl⟩⟩
theorem GY(os:List Int)(pw:List (List Int))(cj:List (List (List Int)))(hl:GX os pw cj):BG Tryz.prog 34 [A8 os pw cj] (.b (tf (AI os pw cj∧DI (pc os pw cj) 0))):=by
 refine BG.AM A9 Tryz.func34 rfl (by kernel_rfl) Tryz.ntmps34 Tryz.results34 (.b _) (fun nx cX=>?_)
 refine sQ fun N hN=>?_;simp-dsimp-implicitDefEqProofs(disch:=omega)only[go_sem,A8,ints,rows,A4];apply hN;refine AW.B5 1 nx _ rfl (A1 _ _ _) ?_
 simp-dsimp-implicitDefEqProofs(disch:=omega)only[go_sem];refine sQ fun N hN=>?_;simp-dsimp-implicitDefEqProofs(disch:=omega)only[go_sem,A8,ints,rows,A4];refine AC.pure (.of (KF os pw cj hl)) ?_;try simp-dsimp-implicitDefEqProofs(disch:=omega)only[go_sem,A8,ints,rows,A4]
 refine C9.mk' (fun h1=>?_) (fun h1=>?_)
 ·try simp only[cn]at h1
  try simp-dsimp-implicitDefEqProofs(disch:=omega)only[go_sem,A8,ints,rows,A4]
  refine(KI os pw cj h1 _ _).AG ?_;rintro m1 H1 r1 MW ⟨rfl,x,rfl,hx⟩;try simp-dsimp-implicitDefEqProofs(disch:=omega)only[go_sem,A8,ints,rows,A4]
  apply hN;apply AW.ret;simp-dsimp-implicitDefEqProofs(disch:=omega)only[go_sem];exact bt (by by_cases q:x=0<;>simp[q,EN,CE,h1,←hx])
 try simp only[cn]at h1
 try simp-dsimp-implicitDefEqProofs(disch:=omega)only[go_sem,A8,ints,rows,A4]
 apply hN;apply AW.ret;simp-dsimp-implicitDefEqProofs(disch:=omega)only[go_sem];all_goals exact bt (CE (fun q=>h1 q.1)).symm
def pA(os:List Int)(pw:List (List Int))(cj:List (List (List Int))):Prop:=AI os pw cj∧DI (pc os pw cj) 0
section
variable{P:Pc}
theorem Ht(hv:F9 P){j:Nat}(hj:j<P.n)(hg:HL (T P (j+1)) (M P (j+1))){y:V}(ty:T P (j+1) y){a:Int}(h0:0≤a)(h1:a<P.o j):M P j (AX z0 j a) y=AX y j a:=by
  have hy:=ty.z j (by omega);rw[PN hj];unfold ZZ;rw[hy,CM,if_neg (by omega),EO,J1,F8 hy];show AX (M P (j+1) z0 y) j _=_
  rw[hg.l1 ty];congr 1;omega
theorem Sd(hv:F9 P){j:Nat}(hj:j<P.n)(hg:HL (T P (j+1)) (M P (j+1))){a:Int}(h0:0<a)(h1:a<P.o j):M P j (AX z0 j a) (AX z0 j (P.o j-a))=P.pw j:=by
  rw[PN hj];unfold ZZ;rw[CM,CM,if_pos (by omega),EO,EO,J1,aZ hv,hg.l1 hg.e0,hg.r1 (hv.pw j hj)];exact F8 (by rw[(hv.pw j hj).z j (by omega)];omega)
theorem xD(hv:F9 P){j:Nat}(hj:j<P.n)(hg:HL (T P j) (M P j))(JZ:HL (T P (j+1)) (M P (j+1))){x:V}(hx:T P j x)(h0:x j≠0):
    inv P j x=M P j (M P j (inv P (j+1) (AX x j 0)) (AX z0 j (P.o j-x j))) (inv P (j+1) (P.pw j)):=by
  have hr:=hx.r j (Nat.le_refl _) hj;have tz:=T.zero hv (j+1);obtain⟨t1,t2⟩:=DY JZ hx.cut;obtain⟨t3,t4⟩:=DY JZ (hv.pw j hj);have u1:T P j (AX z0 j (x j)):=T.put hj tz hr.1 hr.2;have u2:T P j (AX z0 j (P.o j-x j)):=T.put hj tz (by omega) (by omega);have m1:=t1.mono hv (show j≤j+1 by omega);have m3:=t3.mono hv (show j≤j+1 by omega);have mc:=hx.cut.mono hv (show j≤j+1 by omega);have mp:=(hv.pw j hj).mono hv (show j≤j+1 by omega);refine(inv_eq hg hx (hg.cl (hg.cl m1 u2) m3) ?_).symm;have e1:M P j x (inv P (j+1) (AX x j 0))=AX z0 j (x j):=by
    have e2:x=M P j (AX z0 j (x j)) (AX x j 0):=by rw[Ht hv hj JZ hx.cut hr.1 hr.2,aY]
    have e3:M P j (M P j (AX z0 j (x j)) (AX x j 0)) (inv P (j+1) (AX x j 0))=AX z0 j (x j):=by
      rw[hg.ac u1 mc m1,YQ hv hx.cut t1,t2,hg.r1 u1]
    rw[←e2]at e3;exact e3
  rw[←hg.ac hx (hg.cl m1 u2) m3,←hg.ac hx m1 u2,e1,Sd hv hj JZ (by omega) hr.2,YQ hv (hv.pw j hj) t3,t4]
theorem pB(hv:F9 P){j:Nat}(hj:j<P.n)(hg:HL (T P j) (M P j))(JZ:HL (T P (j+1)) (M P (j+1))){x:V}(hx:T P j x)(h0:x j=0):inv P j x=inv P (j+1) (AX x j 0):=by
  obtain⟨t1,t2⟩:=DY JZ hx.cut;refine(inv_eq hg hx (t1.mono hv (by omega)) ?_).symm;have e:AX x j 0=x:=F8 h0;have t0:=hx.cut;rw[e]at t1 t2 t0 ⊢;rw[YQ hv t0 t1,t2]
end
theorem PS(os:List Int)(pw:List (List Int))(cj:List (List (List Int)))(h:AI os pw cj)(i:Nat)(hi:i<os.length)(hc:DI (pc os pw cj) i)(hF:∀a,T (pc os pw cj) (i+1) a→BG Tryz.prog 136 [A8 os pw cj,.i .i64 ((i:Int)+1),vi os.length a] (vi os.length (inv (pc os pw cj) (i+1) a)))(a:V)(ha:T (pc os pw cj) i a):BG Tryz.prog 136 [A8 os pw cj,.i .i64 i,vi os.length a] (vi os.length (inv (pc os pw cj) i a)):=by
 have hv:=h.val
 have J4:=h.1.1
 have XI:=h.1.2.1
 have hg:=BO hv hc
 have JZ:=BO hv (hc.mono (show i≤i+1 by omega))
 have UA:=h.o7 hi
 have Ho:(pc os pw cj).o i=os.getD i 0:=rfl
 have hri:=ha.r i (Nat.le_refl _) hi
 have e2:AV.v (pw.getD i []).length (List.map (AV.i IntKind.i64) (pw.getD i []))=vi os.length ((pc os pw cj).pw i):=CN (h.Hn hi)
 have t1:=(DY JZ ha.cut).1.mono hv (show i≤i+1 by omega)
 have t3:=(DY JZ (hv.pw i hi)).1.mono hv (show i≤i+1 by omega)
 refine BG.AM A9 Tryz.func136 rfl (by kernel_rfl) Tryz.ntmps136 Tryz.results136 (J3 _ _) (fun nx cX=>?_)
 refine sQ fun N hN=>?_;simp-dsimp-implicitDefEqProofs(disch:=omega)only[go_sem,A8,A5,ints,rows,A4,A6,A7,vi];apply hN;refine AW.B5 3 nx _ rfl (A1 _ _ _) ?_
 simp-dsimp-implicitDefEqProofs(disch:=omega)only[go_sem];refine sQ fun N hN=>?_;simp-dsimp-implicitDefEqProofs(disch:=omega)only[go_sem,A8,A5,ints,rows,A4,A6,A7,vi];apply hN;refine AW.seq fun N1 BC=>?_;refine sQ fun N hN=>?_;simp-dsimp-implicitDefEqProofs(disch:=omega)only[go_sem,A8,A5,ints,rows,A4,A6,A7,vi];apply hN;refine AW.cond rfl ?_ ?_<;>intro h1
 ·try simp only[cn]at h1
  exfalso;omega
 try simp only[cn]at h1
 apply AW.skip;apply BC;refine sQ fun N hN=>?_;simp-dsimp-implicitDefEqProofs(disch:=omega)only[go_sem,A8,A5,ints,rows,A4,A6,A7,vi];refine(F5 a (by omega) _ _).mono ?_
 rintro Mq H1 r1 ⟨XO,rfl,g1,g2,rfl⟩
 try simp-dsimp-implicitDefEqProofs(disch:=omega)only[go_sem,A8,A5,ints,rows,A4,A6,A7,vi]
 apply hN;refine sQ fun N hN=>?_;simp-dsimp-implicitDefEqProofs(disch:=omega)only[go_sem,A8,A5,ints,rows,A4,A6,A7,vi];apply hN;refine AW.freeze 8 XO os.length (DM os.length (AX a i 0)) rfl (by simp(disch:=omega)only[A1,A0]) E0 ?_
 simp-dsimp-implicitDefEqProofs(disch:=omega)only[go_sem];refine sQ fun N hN=>?_;simp-dsimp-implicitDefEqProofs(disch:=omega)only[go_sem,A8,A5,ints,rows,A4,A6,A7,vi];refine AC.pure (.of (hF _ ha.cut)) ?_;try simp-dsimp-implicitDefEqProofs(disch:=omega)only[go_sem,A8,A5,ints,rows,A4,A6,A7,vi]
 apply hN;refine AW.seq fun N2 BM=>?_;refine sQ fun N hN=>?_;simp-dsimp-implicitDefEqProofs(disch:=omega)only[go_sem,A8,A5,ints,rows,A4,A6,A7,vi];apply hN;refine AW.cond rfl ?_ ?_<;>intro h2
 ·try simp only[cn]at h2
  refine sQ fun N hN=>?_;simp-dsimp-implicitDefEqProofs(disch:=omega)only[go_sem,A8,A5,ints,rows,A4,A6,A7,vi];apply hN;apply AW.ret;simp-dsimp-implicitDefEqProofs(disch:=omega)only[go_sem];rw[pB hv hi hg JZ ha h2];rfl
 try simp only[cn]at h2
 have hai:0<a i:=by omega
 have tu:T (pc os pw cj) i (AX z0 i ((pc os pw cj).o i-a i)):=T.put hi (T.zero hv _) (by omega) (by omega)
 apply AW.skip;apply BM;refine sQ fun N hN=>?_;simp-dsimp-implicitDefEqProofs(disch:=omega)only[go_sem,A8,A5,ints,rows,A4,A6,A7,vi];apply hN;rw[CA]
 refine AW.seq fun N hN=>?_;refine AW.BI A9 (by kernel_rfl) 13 (by kernel_rfl) ?_
 simp-dsimp-implicitDefEqProofs(disch:=omega)only[B3,B4,BH,List.take_succ_cons,List.take_zero,List.drop_succ_cons,List.drop_zero,List.take_nil,List.drop_nil,go_sem,undef,A8,A5,ints,rows,A4,A6,A7,AJ,vi];apply hN;refine AW.freeze 10 (Mq+4+6+5+1) os.length (DM os.length (AX z0 i ((pc os pw cj).o i-a i))) rfl (A1 _ _ _) E0 ?_
 simp-dsimp-implicitDefEqProofs(disch:=omega)only[go_sem];refine AW.seq fun N hN=>?_;refine AW.BI A9 (by kernel_rfl) 18 (by kernel_rfl) ?_
 simp-dsimp-implicitDefEqProofs(disch:=omega)only[B3,B4,BH,List.take_succ_cons,List.take_zero,List.drop_succ_cons,List.drop_zero,List.take_nil,List.drop_nil,go_sem,undef,A8,A5,ints,rows,A4,A6,A7,AJ,vi];refine⟨_,.of (DJ os pw cj h i (by omega) _ _ t1 tu),?_⟩
 try simp-dsimp-implicitDefEqProofs(disch:=omega)only[go_sem,A8,A5,ints,rows,A4,A6,A7,vi]
 rw[e2]
 refine⟨_,.of (hF _ (hv.pw i hi)),?_⟩
 try simp-dsimp-implicitDefEqProofs(disch:=omega)only[go_sem,A8,A5,ints,rows,A4,A6,A7,vi]
 refine⟨_,.of (DJ os pw cj h i (by omega) _ _ (hg.cl t1 tu) t3),?_⟩
 try simp-dsimp-implicitDefEqProofs(disch:=omega)only[go_sem,A8,A5,ints,rows,A4,A6,A7,vi]
 apply hN;apply AW.ret;simp-dsimp-implicitDefEqProofs(disch:=omega)only[go_sem];rw[xD hv hi hg JZ ha (by omega)];rfl
theorem R4(os:List Int)(pw:List (List Int))(cj:List (List (List Int)))(h:AI os pw cj)(a:V)(ha:T (pc os pw cj) os.length a):BG Tryz.prog 136 [A8 os pw cj,.i .i64 os.length,vi os.length a] (vi os.length (inv (pc os pw cj) os.length a)):=by
 have J4:=h.1.1
 have hg:=BO h.val (show DI (pc os pw cj) os.length from fun i h1 h2=>absurd h2 (by have:(pc os pw cj).n=os.length:=rfl;omega))
 refine BG.GD A9 Tryz.func136 rfl (by kernel_rfl) Tryz.ntmps136 Tryz.results136 ((J3 _ _)) (fun nx cX=>?_)
 refine sQ fun N hN=>?_;simp-dsimp-implicitDefEqProofs(disch:=omega)only[go_sem,A8,A5,ints,rows,A4,vi];apply hN;refine AW.B5 3 nx _ rfl (A1 _ _ _) ?_
 simp-dsimp-implicitDefEqProofs(disch:=omega)only[go_sem];refine sQ fun N hN=>?_;simp-dsimp-implicitDefEqProofs(disch:=omega)only[go_sem,A8,A5,ints,rows,A4,vi];apply hN;refine AW.seq fun N1 BC=>?_;refine sQ fun N hN=>?_;simp-dsimp-implicitDefEqProofs(disch:=omega)only[go_sem,A8,A5,ints,rows,A4,vi];apply hN;refine AW.cond rfl ?_ ?_<;>intro h1
 ·try simp only[cn]at h1
  refine sQ fun N hN=>?_;simp-dsimp-implicitDefEqProofs(disch:=omega)only[go_sem,A8,A5,ints,rows,A4,vi];apply hN;apply AW.ret;simp-dsimp-implicitDefEqProofs(disch:=omega)only[go_sem];refine Vw.vi ?_
  rw[A1,CA,←inv_eq hg ha hg.e0 (WS (P:=pc os pw cj) (Nat.le_refl _) _ _)];rfl
 try simp only[cn]at h1
 simp at h1
theorem SA(os:List Int)(pw:List (List Int))(cj:List (List (List Int)))(h:AI os pw cj):∀(i:Nat),i≤os.length→DI (pc os pw cj) i→∀a,T (pc os pw cj) i a→
    BG Tryz.prog 136 [A8 os pw cj,.i .i64 i,vi os.length a] (vi os.length (inv (pc os pw cj) i a)):=by
  have key:∀d i,i+d=os.length→DI (pc os pw cj) i→∀a,T (pc os pw cj) i a→
      BG Tryz.prog 136 [A8 os pw cj,.i .i64 i,vi os.length a] (vi os.length (inv (pc os pw cj) i a)):=by
    intro d;induction d with
    |zero=>intro i hi _ a ha;obtain rfl:i=os.length:=hi;exact R4 os pw cj h a ha
    | succ d ih=>
      intro i hi hc a ha;refine PS os pw cj h i (by omega) hc (fun a ha=>?_) a ha;have:=ih (i+1) (by omega) (hc.mono (by omega)) a ha;rwa [Int.natCast_add]at this
  exact fun i hi=>key (os.length-i) i (by omega)
section
variable(os:List Int)(pw:List (List Int))(cj:List (List (List Int)))
theorem M9(h:AI os pw cj)(hc:DI (pc os pw cj) 0)(a:V)(ha:T (pc os pw cj) 0 a):BG Tryz.prog 103 [A8 os pw cj,vi os.length a] (vi os.length (inv (pc os pw cj) 0 a)):=by
 refine BG.AM A9 Tryz.func103 rfl (by kernel_rfl) Tryz.ntmps103 Tryz.results103 (J3 _ _) (fun nx cX=>?_)
 refine sQ fun N hN=>?_;simp-dsimp-implicitDefEqProofs(disch:=omega)only[go_sem,A8];apply hN;refine AW.B5 2 nx _ rfl (A1 _ _ _) ?_
 simp-dsimp-implicitDefEqProofs(disch:=omega)only[go_sem];refine sQ fun N hN=>?_;simp-dsimp-implicitDefEqProofs(disch:=omega)only[go_sem,A8];refine AC.pure (.of (SA os pw cj h 0 (Nat.zero_le _) hc a ha)) ?_;try simp-dsimp-implicitDefEqProofs(disch:=omega)only[go_sem,A8]
 apply hN;apply AW.ret;simp-dsimp-implicitDefEqProofs(disch:=omega)only[go_sem];try rfl
theorem D8(h:AI os pw cj)(a b:V)(ha:T (pc os pw cj) 0 a)(hb:T (pc os pw cj) 0 b):BG Tryz.prog 95 [A8 os pw cj,vi os.length a,vi os.length b] (vi os.length (M (pc os pw cj) 0 a b)):=by
 refine BG.AM A9 Tryz.func95 rfl (by kernel_rfl) Tryz.ntmps95 Tryz.results95 (J3 _ _) (fun nx cX=>?_)
 refine sQ fun N hN=>?_;simp-dsimp-implicitDefEqProofs(disch:=omega)only[go_sem,A8];apply hN;refine AW.B5 3 nx _ rfl (A1 _ _ _) ?_
 simp-dsimp-implicitDefEqProofs(disch:=omega)only[go_sem];refine sQ fun N hN=>?_;simp-dsimp-implicitDefEqProofs(disch:=omega)only[go_sem,A8];refine AC.pure (.of (DJ os pw cj h 0 (Nat.zero_le _) a b ha hb)) ?_;try simp-dsimp-implicitDefEqProofs(disch:=omega)only[go_sem,A8]
 apply hN;apply AW.ret;simp-dsimp-implicitDefEqProofs(disch:=omega)only[go_sem];try rfl
theorem UJ(hn:os.length≤1048576):BG Tryz.prog 94 [A8 os pw cj] (vi os.length z0):=by
 refine BG.GD A9 Tryz.func94 rfl (by kernel_rfl) Tryz.ntmps94 Tryz.results94 ((J3 _ _)) (fun nx cX=>?_)
 refine sQ fun N hN=>?_;simp-dsimp-implicitDefEqProofs(disch:=omega)only[go_sem,A8,ints];apply hN;refine AW.B5 1 nx _ rfl (A1 _ _ _) ?_
 simp-dsimp-implicitDefEqProofs(disch:=omega)only[go_sem];refine sQ fun N hN=>?_;simp-dsimp-implicitDefEqProofs(disch:=omega)only[go_sem,A8,ints];apply hN;apply AW.ret;simp-dsimp-implicitDefEqProofs(disch:=omega)only[go_sem];refine Vw.vi ?_
 rw[A1,CA];rfl
theorem OQ(ho:os.length≤1048576)(OL:∀k,k<os.length→0≤os.getD k 0∧os.getD k 0≤1000)(a:List Int)(ha:a.length≤1048576):BG Tryz.prog 87 [A8 os pw cj,ints a] (.b (tf (wV os a))):=by
 refine BG.AM A9 Tryz.func87 rfl (by kernel_rfl) Tryz.ntmps87 Tryz.results87 (.b _) (fun nx cX=>?_)
 refine sQ fun N hN=>?_;simp-dsimp-implicitDefEqProofs(disch:=omega)only[go_sem,A8];apply hN;refine AW.B5 2 nx _ rfl (A1 _ _ _) ?_
 simp-dsimp-implicitDefEqProofs(disch:=omega)only[go_sem];refine sQ fun N hN=>?_;simp-dsimp-implicitDefEqProofs(disch:=omega)only[go_sem,A8];refine AC.pure (.of (EJ os a (-1) ho OL ha)) ?_;try simp-dsimp-implicitDefEqProofs(disch:=omega)only[go_sem,A8]
 apply hN;apply AW.ret;simp-dsimp-implicitDefEqProofs(disch:=omega)only[go_sem];exact bt (RX Rx)
end
def OR(os:List Int)(xs:List (List Int)):Prop:=∀k,k<xs.length→wV os (xs.getD k [])
theorem NJ(os:List Int)(pw:List (List Int))(cj:List (List (List Int)))(ho:os.length≤1048576)(OL:∀k,k<os.length→0≤os.getD k 0∧os.getD k 0≤1000)(xs:List (List Int))(hx:B6 xs):BG Tryz.prog 47 [A8 os pw cj,rows xs] (.b (tf (OR os xs))):=by
 have KA:=hx.n
 refine BG.AM A9 Tryz.func47 rfl (by kernel_rfl) Tryz.ntmps47 Tryz.results47 (.b _) (fun nx cX=>?_)
 refine sQ fun N hN=>?_;simp-dsimp-implicitDefEqProofs(disch:=omega)only[go_sem,A8,A5,rows,A7];apply hN;refine AW.B5 2 nx _ rfl (A1 _ _ _) ?_
 simp-dsimp-implicitDefEqProofs(disch:=omega)only[go_sem];refine AW.seq fun N1 BC=>?_;refine sQ fun N hN=>?_;simp-dsimp-implicitDefEqProofs(disch:=omega)only[go_sem,A8,A5,rows,A7];apply hN;apply AW.block;refine AW.AF (α:=Nat) (fun x=>sl 19 [(1,rows xs),(2,A5 os pw cj),(5,.i .i64 x)]) (fun _=>BN) (fun x m=>x≤xs.length∧∀j,j<x→wV os (xs.getD j [])) (fun x=>xs.length-x) (0) ?_ ?_ (Le.del (by simp[BN])) ?_
 ·exact⟨by omega,by intro j hj;omega⟩
 ·simp(disch:=omega) [AO,AQ,sl,A5,ints,rows,A4]
 skip
 rintro k m ⟨hk,hI⟩
 simp-dsimp-implicitDefEqProofs(disch:=omega)only[go_sem];simp only[A5];refine AW.seq fun N2 BM=>?_;refine sQ fun N hN=>?_;simp-dsimp-implicitDefEqProofs(disch:=omega)only[go_sem,A8,A5,rows,A7];apply hN;refine AW.cond rfl ?_ ?_<;>intro h1
 ·try simp only[cn]at h1
  have hxk:=hx.getD k;apply AW.skip;apply BM;refine AW.seq fun N3 BQ=>?_;apply AW.block;refine AW.seq fun N hN=>?_;refine AW.BI A9 (by kernel_rfl) 7 (by kernel_rfl) ?_
  simp-dsimp-implicitDefEqProofs(disch:=omega)only[B3,B4,BH,List.take_succ_cons,List.take_zero,List.drop_succ_cons,List.drop_zero,List.take_nil,List.drop_nil,go_sem,undef,A8,A5,rows,A7,AJ];refine⟨_,.of (OQ os pw cj ho OL (xs.getD k []) (by omega)),?_⟩;try simp-dsimp-implicitDefEqProofs(disch:=omega)only[go_sem,A8,A5,rows,A7]
  apply hN;refine AW.cond rfl ?_ ?_<;>intro h2
  ·try simp only[cn]at h2
   refine sQ fun N hN=>?_;simp-dsimp-implicitDefEqProofs(disch:=omega)only[go_sem,A8,A5,rows,A7];apply hN;apply AW.ret;simp-dsimp-implicitDefEqProofs(disch:=omega)only[go_sem];exact bt (CE (fun q=>h2 (q k (by omega)))).symm
  try simp only[cn]at h2
  apply AW.skip;apply BQ;apply rQ;simp-dsimp-implicitDefEqProofs(disch:=omega)only[go_sem,A8,A5,rows,A7];refine⟨k+1,?_,fun _ _ h=>h,?_,?_⟩
  ·simp(disch:=omega) [AO,AQ,sl,A5,AJ,ints,rows,A4]<;>omega
  ·refine⟨by omega,fun j hj=>?_⟩;by_cases e:j=k
   ·subst e;exact h2
   exact hI j (by omega)
  first|omega|(simp only;omega)
 try simp only[cn]at h1
 apply AW.exit;apply BC;refine sQ fun N hN=>?_;simp-dsimp-implicitDefEqProofs(disch:=omega)only[go_sem,A8,A5,rows,A7];apply hN;apply AW.ret;simp-dsimp-implicitDefEqProofs(disch:=omega)only[go_sem];exact bt (EN (fun j hj=>hI j (by omega))).symm
theorem EZ(os:List Int)(pw:List (List Int))(cj:List (List (List Int)))(hl:GX os pw cj)(xs:List (List Int))(hx:B6 xs):BG Tryz.prog 42 [A5 os pw cj,rows xs] (.b (tf (pA os pw cj∧OR os xs))):=by
 have KA:=hx.n
 have ho:=hl.o
 refine BG.AM A9 Tryz.func42 rfl (by kernel_rfl) Tryz.ntmps42 Tryz.results42 (.b _) (fun nx cX=>?_)
 refine sQ fun N hN=>?_;simp-dsimp-implicitDefEqProofs(disch:=omega)only[go_sem,A5,rows,A7];apply hN;refine AW.seq fun N1 BC=>?_;refine sQ fun N hN=>?_;simp-dsimp-implicitDefEqProofs(disch:=omega)only[go_sem,A5,rows,A7];refine AC.pure (.of (GY os pw cj hl)) ?_;try simp-dsimp-implicitDefEqProofs(disch:=omega)only[go_sem,A5,rows,A7]
 apply hN;refine AW.cond rfl ?_ ?_<;>intro h1
 ·try simp only[cn]at h1
  refine sQ fun N hN=>?_;simp-dsimp-implicitDefEqProofs(disch:=omega)only[go_sem,A5,rows,A7];apply hN;apply AW.ret;simp-dsimp-implicitDefEqProofs(disch:=omega)only[go_sem];exact bt (CE (fun q=>h1 q.1)).symm
 try simp only[cn]at h1
 have OL:=AI.ob (pw:=pw) (cj:=cj) h1.1.2.1
 apply AW.skip;apply BC;refine AW.seq fun N2 BM=>?_;refine sQ fun N hN=>?_;simp-dsimp-implicitDefEqProofs(disch:=omega)only[go_sem,A5,rows,A7];apply hN;apply AW.block;refine AW.AF (α:=Nat) (fun x=>sl 23 [(0,A5 os pw cj),(12,rows xs),(13,.i .i64 xs.length),(14,.i .i64 x)]) (fun _=>BN) (fun x m=>x≤xs.length∧∀j,j<x→wV os (xs.getD j [])) (fun x=>xs.length-x) (0) ?_ ?_ (fun _ _ h=>h) ?_
 ·exact⟨by omega,by intro j hj;omega⟩
 ·simp(disch:=omega) [AO,AQ,sl,A5,ints,rows,A4]
 skip
 rintro k m ⟨hk,hI⟩
 simp-dsimp-implicitDefEqProofs(disch:=omega)only[go_sem];simp only[A5];refine sQ fun N hN=>?_;simp-dsimp-implicitDefEqProofs(disch:=omega)only[go_sem,A5,rows,A7];apply hN;refine AW.seq fun N3 BQ=>?_;refine AW.cond rfl ?_ ?_<;>intro h2
 ·try simp only[cn]at h2
  have hxk:=hx.getD k;apply AW.skip;apply BQ;refine AW.seq fun N4 CG=>?_;apply AW.block;refine sQ fun N hN=>?_;simp-dsimp-implicitDefEqProofs(disch:=omega)only[go_sem,A5,rows,A7];apply hN;refine sQ fun N hN=>?_;simp-dsimp-implicitDefEqProofs(disch:=omega)only[go_sem,A5,rows,A7];refine AC.pure (.of (EY os pw cj (xs.getD k []) ho OL (by omega))) ?_;try simp-dsimp-implicitDefEqProofs(disch:=omega)only[go_sem,A5,rows,A7]
  apply hN;refine AW.cond rfl ?_ ?_<;>intro h3
  ·try simp only[cn]at h3
   refine sQ fun N hN=>?_;simp-dsimp-implicitDefEqProofs(disch:=omega)only[go_sem,A5,rows,A7];apply hN;apply AW.ret;simp-dsimp-implicitDefEqProofs(disch:=omega)only[go_sem];exact bt (CE (fun q=>h3 (q.2 k (by omega)))).symm
  try simp only[cn]at h3
  apply AW.skip;apply CG;apply rQ;simp-dsimp-implicitDefEqProofs(disch:=omega)only[go_sem,A5,rows,A7];refine⟨k+1,?_,fun _ _ h=>h,?_,?_⟩
  ·simp(disch:=omega) [AO,AQ,sl,A5,AJ,ints,rows,A4]<;>omega
  ·refine⟨by omega,fun j hj=>?_⟩;by_cases e:j=k
   ·subst e;exact h3
   exact hI j (by omega)
  first|omega|(simp only;omega)
 try simp only[cn]at h2
 apply AW.exit;apply BM;refine sQ fun N hN=>?_;simp-dsimp-implicitDefEqProofs(disch:=omega)only[go_sem,A5,rows,A7];apply hN;apply AW.ret;simp-dsimp-implicitDefEqProofs(disch:=omega)only[go_sem];exact bt (EN ⟨h1,fun j hj=>hI j (by omega)⟩).symm
end Go.Proofs.YtghmeeifjeafmaaGreat
namespace Go.Proofs.YtghmeeifjeafmaaGreat
def lab(l:Int):Int:=if 0<l then l else-l
def pC(l:Int):Nat:=(lab l-1).toNat
end Go.Proofs.YtghmeeifjeafmaaGreat
namespace Go.Proofs.YtghmeeifjeafmaaGreat
def uD(xs:List (List Int))(k:Nat):V:=fl (xs.getD k [])
section
variable{os:List Int}{pw:List (List Int)}{cj:List (List (List Int))}
theorem pD{xs:List (List Int)}(hx:OR os xs){k:Nat}(hk:k<xs.length):T (pc os pw cj) 0 (uD xs k):=(hx k hk).T
theorem Hu{xs:List (List Int)}(hx:OR os xs){k:Nat}(hk:k<xs.length):AV.v (xs.getD k []).length (List.map (AV.i IntKind.i64) (xs.getD k []))=vi os.length (uD xs k):=CN (hx k hk).1
end
def xE(b:Bool)(z:Bool):AV:= .t [.b (b && z),.i .i64 (if b then 0 else 1)]
theorem xF(b z:Bool):NR (xE b z):= .t _ (fun k x hk=>by
  match k,hk with
  |0,hk=>cases hk;exact .b _
  |1,hk=>cases hk;exact .i _ _)
theorem eJ{p:Prop}{z:Bool}(h:¬p):xE (tf p) z= .t [.b false,.i .i64 1]:=by rw[CE h];rfl
theorem pE{p:Prop}{z:Bool}(h:p):xE (tf p) z= .t [.b z,.i .i64 0]:=by rw[EN h];rfl
end Go.Proofs.YtghmeeifjeafmaaGreat
