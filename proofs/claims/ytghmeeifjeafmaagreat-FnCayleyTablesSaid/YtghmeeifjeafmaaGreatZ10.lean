import Derived.Test.YtghmeeifjeafmaaGreatZ08
import Derived.Test.YtghmeeifjeafmaaGreatZ09
set_option linter.unusedVariables false
set_option linter.unusedSimpArgs false
namespace Go.Proofs.YtghmeeifjeafmaaGreat
def A8(os:List Int)(pw:List (List Int))(cj:List (List (List Int))):AV:= .g [ints os,rows pw,A4 cj]
def A5(os:List Int)(pw:List (List Int))(cj:List (List (List Int))):AV:= .p 0 [ints os,rows pw,A4 cj]
def mW(os v:List Int)(z:Int):Prop:=v.length=os.length∧∀k,k<v.length→(0≤v.getD k 0∧v.getD k 0≤os.getD k 0-1)∧((k:Int)≤z→v.getD k 0=0)
def lvP(os:List Int)(pw:List (List Int))(cj:List (List (List Int)))(i:Nat):Prop:=
  mW os (pw.getD i []) i∧(cj.getD i []).length+1+i=os.length∧∀k,k<(cj.getD i []).length→mW os ((cj.getD i []).getD k []) i
def OK(os:List Int):Nat→Int
  |0=>1
  |k+1=>OK os k*os.getD k 0
def AI(os:List Int)(pw:List (List Int))(cj:List (List (List Int))):Prop:=
  (os.length≤6∧pw.length=os.length∧cj.length=os.length)∧(∀i,i<os.length→J0 (os.getD i 0))∧OK os os.length≤729∧∀i,i<os.length→lvP os pw cj i
def JN(os:List Int):Nat→Int
  |0=>1
  |k+1=>if JN os k≤729 then JN os k*os.getD k 0 else JN os k
theorem QY{a b:Int}{A B:Int}(ha:1≤a)(QR:a≤A)(hb:1≤b)(tR:b≤B):1≤a*b∧a*b≤A*B∧a≤a*b:=by
  have h1:1*1≤a*b:=Int.mul_le_mul ha hb (by omega) (by omega);have h2:a*b≤A*B:=Int.mul_le_mul QR tR (by omega) (by omega);have h3:a*1≤a*b:=Int.mul_le_mul (Int.le_refl _) hb (by omega) (by omega);omega
theorem TH{os:List Int}(h:∀i,i<os.length→J0 (os.getD i 0)):∀k,k≤os.length→(1≤JN os k∧JN os k≤5103)∧((JN os k≤729∧JN os k=OK os k)∨(729<JN os k∧729<OK os k)):=by
  intro k;induction k with
  |zero=>intro _;simp[JN,OK]
  | succ k ih=>
    intro hk;obtain⟨⟨h1,h2⟩,h3⟩:=ih (by omega);have h4:=D0 (h k (by omega));simp only[JN,OK];split
    · rename_i hs;have h5:=QY h1 hs (show 1≤os.getD k 0 by omega) (show os.getD k 0≤7 by omega);rcases h3 with h3|h3
      · rw[←h3.2];refine⟨by omega,?_⟩;omega
      omega
    rename_i hs;rcases h3 with h3|h3
    · omega
    have h6:1≤OK os k:=by omega
    have h7:=QY h6 (Int.le_refl _) (show 1≤os.getD k 0 by omega) (show os.getD k 0≤7 by omega);refine⟨by omega,.inr ⟨by omega,by omega⟩⟩
theorem wU{os:List Int}(h:∀i,i<os.length→J0 (os.getD i 0)):∀k,k≤os.length→1≤OK os k:=by
  intro k hk;have:=TH h k hk;omega
theorem bA{os:List Int}(h:∀i,i<os.length→J0 (os.getD i 0)){k:Nat}:∀d,k+d≤os.length→OK os k≤OK os (k+d):=by
  intro d;induction d with
  |zero=>intro _;exact Int.le_refl _
  | succ d ih=>
    intro hd;have h1:=ih (by omega);have h2:=D0 (h (k+d) (by omega));have h3:=wU h (k+d) (by omega);have h4:=QY h3 (Int.le_refl _) (show 1≤os.getD (k+d) 0 by omega) (show os.getD (k+d) 0≤7 by omega);show OK os k≤OK os (k+d)*os.getD (k+d) 0
    omega
theorem EJ(os v:List Int)(z:Int)(ho:os.length≤1048576)(OL:∀k,k<os.length→0≤os.getD k 0∧os.getD k 0≤1000)(hv:v.length≤1048576):BG Tryz.prog 129 [ints os,ints v,.i .i64 z] (.b (tf (mW os v z))):=by
 refine BG.AM A9 Tryz.func129 rfl (by kernel_rfl) Tryz.ntmps129 Tryz.results129 (.b _) (fun nx cX=>?_)
 refine sQ fun N hN=>?_;simp-dsimp-implicitDefEqProofs(disch:=omega)only[go_sem,ints,A6];apply hN;refine AW.seq fun N1 BC=>?_;refine sQ fun N hN=>?_;simp-dsimp-implicitDefEqProofs(disch:=omega)only[go_sem,ints,A6];apply hN;refine AW.cond rfl ?_ ?_<;>intro h1
 ·try simp only[cn]at h1
  refine sQ fun N hN=>?_;simp-dsimp-implicitDefEqProofs(disch:=omega)only[go_sem,ints,A6];apply hN;apply AW.ret;simp-dsimp-implicitDefEqProofs(disch:=omega)only[go_sem];exact bt (CE (fun h=>h1 (by rw[h.1]))).symm
 try simp only[cn]at h1
 apply AW.skip;apply BC;refine AW.seq fun N2 BM=>?_;refine sQ fun N hN=>?_;simp-dsimp-implicitDefEqProofs(disch:=omega)only[go_sem,ints,A6];apply hN;apply AW.block;refine AW.AF (α:=Nat) (fun x=>sl 42 [(0,ints os),(1,ints v),(2,.i .i64 z),(7,.i .i64 x)]) (fun _=>BN) (fun x m=>x≤v.length∧∀k,k<x→(0≤v.getD k 0∧v.getD k 0≤os.getD k 0-1)∧((k:Int)≤z→v.getD k 0=0)) (fun x=>v.length-x) (0) ?_ ?_ (fun _ _ h=>h) ?_
 ·exact⟨by omega,by intro j hj;omega⟩
 ·simp(disch:=omega) [AO,AQ,sl,AJ,ints,rows,A4,ints,A6,AJ]<;>omega
 skip
 rintro k m ⟨hk,hI⟩
 simp-dsimp-implicitDefEqProofs(disch:=omega)only[go_sem];refine AW.seq fun N3 BQ=>?_;refine sQ fun N hN=>?_;simp-dsimp-implicitDefEqProofs(disch:=omega)only[go_sem,ints,A6];apply hN;refine AW.cond rfl ?_ ?_<;>intro h2
 ·try simp only[cn]at h2
  have hkb:=OL k (by omega);apply AW.skip;apply BQ;refine AW.seq fun N4 CG=>?_;apply AW.block;refine AW.seq fun N hN=>?_;refine AW.BI A9 (by kernel_rfl) 23 (by kernel_rfl) ?_
  simp-dsimp-implicitDefEqProofs(disch:=omega)only[B3,B4,BH,List.take_succ_cons,List.take_zero,List.drop_succ_cons,List.drop_zero,List.take_nil,List.drop_nil,go_sem,undef,ints,A6,AJ];refine⟨_,.of (GM _ _ _),?_⟩;try simp-dsimp-implicitDefEqProofs(disch:=omega)only[go_sem,ints,A6]
  refine C9.mk' (fun h3=>?_) (fun h3=>?_)
  ·try simp only[cn]at h3
   try simp-dsimp-implicitDefEqProofs(disch:=omega)only[go_sem,ints,A6]
   refine C9.mk' (fun h4=>?_) (fun h4=>?_)
   ·(try simp only[cn]at h4);try simp-dsimp-implicitDefEqProofs(disch:=omega)only[go_sem,ints,A6]
    apply hN;refine AW.cond rfl ?_ ?_<;>intro h5
    ·(try simp only[cn]at h5);refine sQ fun N hN=>?_;simp-dsimp-implicitDefEqProofs(disch:=omega)only[go_sem,ints,A6];apply hN;apply AW.ret;simp-dsimp-implicitDefEqProofs(disch:=omega)only[go_sem];exact bt (CE (fun h=>h5 ((h.2 k (by omega)).2 h4))).symm
    (try simp only[cn]at h5);apply AW.skip;apply CG;apply rQ;simp-dsimp-implicitDefEqProofs(disch:=omega)only[go_sem,ints,A6];refine⟨k+1,?_,fun _ _ h=>h,?_,?_⟩
    ·simp(disch:=omega) [AO,AQ,sl,AJ,ints,rows,A4,ints,A6,AJ]<;>omega
    ·refine⟨by omega,fun j hj=>?_⟩;by_cases e:j=k
     ·subst e;exact⟨h3,fun _=>h5⟩
     exact hI j (by omega)
    first|omega|(simp only;omega)
   try simp only[cn]at h4
   try simp-dsimp-implicitDefEqProofs(disch:=omega)only[go_sem,ints,A6]
   apply hN;refine AW.C8 rfl ?_;apply AW.skip;apply CG;apply rQ;simp-dsimp-implicitDefEqProofs(disch:=omega)only[go_sem,ints,A6];refine⟨k+1,?_,fun _ _ h=>h,?_,?_⟩
   ·simp(disch:=omega) [AO,AQ,sl,AJ,ints,rows,A4,ints,A6,AJ]<;>omega
   ·refine⟨by omega,fun j hj=>?_⟩;by_cases e:j=k
    ·subst e;exact⟨h3,fun q=>absurd q (by omega)⟩
    exact hI j (by omega)
   first|omega|(simp only;omega)
  try simp only[cn]at h3
  try simp-dsimp-implicitDefEqProofs(disch:=omega)only[go_sem,ints,A6]
  apply hN;refine AW.DX rfl ?_;refine sQ fun N hN=>?_;simp-dsimp-implicitDefEqProofs(disch:=omega)only[go_sem,ints,A6];apply hN;apply AW.ret;simp-dsimp-implicitDefEqProofs(disch:=omega)only[go_sem];exact bt (CE (fun h=>h3 (h.2 k (by omega)).1)).symm
 try simp only[cn]at h2
 apply AW.exit;apply BM;refine sQ fun N hN=>?_;simp-dsimp-implicitDefEqProofs(disch:=omega)only[go_sem,ints,A6];apply hN;apply AW.ret;simp-dsimp-implicitDefEqProofs(disch:=omega)only[go_sem];exact bt (EN ⟨by omega,fun j hj=>hI j (by omega)⟩).symm
def wV(os v:List Int):Prop:=v.length=os.length∧∀k,k<v.length→0≤v.getD k 0∧v.getD k 0≤os.getD k 0-1
theorem Rx{os v:List Int}:mW os v (-1)↔wV os v:=
  ⟨fun h=>⟨h.1,fun k hk=>(h.2 k hk).1⟩,fun h=>⟨h.1,fun k hk=>⟨h.2 k hk,fun q=>by omega⟩⟩⟩
theorem iM{os v:List Int}{i:Nat}(hi:i<os.length):mW os v i↔wV os v∧iF (v.take (i+1)):=by
  constructor
  · intro h;refine⟨⟨h.1,fun k hk=>(h.2 k hk).1⟩,fun j hj=>?_⟩;have hl:=h.1;rw[List.length_take]at hj;rw[XN _ _ (by omega)];exact(h.2 j (by omega)).2 (by omega)
  rintro⟨h1,h2⟩;refine⟨h1.1,fun k hk=>⟨h1.2 k hk,fun q=>?_⟩⟩;have hl:=h1.1;have:=h2 k (by rw[List.length_take];omega);rwa [XN _ _ (by omega)]at this
theorem EY(os:List Int)(pw:List (List Int))(cj:List (List (List Int)))(v:List Int)(ho:os.length≤1048576)(OL:∀k,k<os.length→0≤os.getD k 0∧os.getD k 0≤1000)(hv:v.length≤1048576):BG Tryz.prog 78 [A5 os pw cj,ints v] (.b (tf (wV os v))):=by
 refine BG.AM A9 Tryz.func78 rfl (by kernel_rfl) Tryz.ntmps78 Tryz.results78 (.b _) (fun nx cX=>?_)
 refine sQ fun N hN=>?_;simp-dsimp-implicitDefEqProofs(disch:=omega)only[go_sem,A5,ints,rows,A4,A6];apply hN;refine AW.seq fun N1 BC=>?_;refine sQ fun N hN=>?_;simp-dsimp-implicitDefEqProofs(disch:=omega)only[go_sem,A5,ints,rows,A4,A6];apply hN;refine AW.cond rfl ?_ ?_<;>intro h1
 ·try simp only[cn]at h1
  refine sQ fun N hN=>?_;simp-dsimp-implicitDefEqProofs(disch:=omega)only[go_sem,A5,ints,rows,A4,A6];apply hN;apply AW.ret;simp-dsimp-implicitDefEqProofs(disch:=omega)only[go_sem];exact bt (CE (fun h=>h1 (by rw[h.1]))).symm
 try simp only[cn]at h1
 apply AW.skip;apply BC;refine AW.seq fun N2 BM=>?_;refine sQ fun N hN=>?_;simp-dsimp-implicitDefEqProofs(disch:=omega)only[go_sem,A5,ints,rows,A4,A6];apply hN;apply AW.block;refine AW.AF (α:=Nat) (fun x=>sl 34 [(0,A5 os pw cj),(15,ints v),(16,.i .i64 v.length),(17,.i .i64 x)]) (fun _=>BN) (fun x m=>x≤v.length∧∀k,k<x→0≤v.getD k 0∧v.getD k 0≤os.getD k 0-1) (fun x=>v.length-x) (0) ?_ ?_ (fun _ _ h=>h) ?_
 ·exact⟨by omega,by intro j hj;omega⟩
 ·simp(disch:=omega) [AO,AQ,sl,AJ,ints,rows,A4,A5,ints,rows,A4,A6,AJ]<;>omega
 skip
 rintro k m ⟨hk,hI⟩
 simp-dsimp-implicitDefEqProofs(disch:=omega)only[go_sem];refine sQ fun N hN=>?_;simp-dsimp-implicitDefEqProofs(disch:=omega)only[go_sem,A5,ints,rows,A4,A6];apply hN;refine AW.seq fun N3 BQ=>?_;refine AW.cond rfl ?_ ?_<;>intro h2
 ·try simp only[cn]at h2
  have hkb:=OL k (by omega);apply AW.skip;apply BQ;refine AW.seq fun N4 CG=>?_;apply AW.block;refine sQ fun N hN=>?_;simp-dsimp-implicitDefEqProofs(disch:=omega)only[go_sem,A5,ints,rows,A4,A6];apply hN;refine sQ fun N hN=>?_;simp-dsimp-implicitDefEqProofs(disch:=omega)only[go_sem,A5,ints,rows,A4,A6];refine AC.pure (.of (M1 _ _ _)) ?_;try simp-dsimp-implicitDefEqProofs(disch:=omega)only[go_sem,A5,ints,rows,A4,A6]
  apply hN;refine AW.cond rfl ?_ ?_<;>intro h3
  ·try simp only[cn]at h3
   refine sQ fun N hN=>?_;simp-dsimp-implicitDefEqProofs(disch:=omega)only[go_sem,A5,ints,rows,A4,A6];apply hN;apply AW.ret;simp-dsimp-implicitDefEqProofs(disch:=omega)only[go_sem];exact bt (CE (fun h=>h3 (h.2 k (by omega)))).symm
  try simp only[cn]at h3
  apply AW.skip;apply CG;apply rQ;simp-dsimp-implicitDefEqProofs(disch:=omega)only[go_sem,A5,ints,rows,A4,A6];refine⟨k+1,?_,fun _ _ h=>h,?_,?_⟩
  ·simp(disch:=omega) [AO,AQ,sl,AJ,ints,rows,A4,A5,ints,rows,A4,A6,AJ]<;>omega
  ·refine⟨by omega,fun j hj=>?_⟩;by_cases e:j=k
   ·subst e;exact h3
   exact hI j (by omega)
  first|omega|(simp only;omega)
 try simp only[cn]at h2
 apply AW.exit;apply BM;refine sQ fun N hN=>?_;simp-dsimp-implicitDefEqProofs(disch:=omega)only[go_sem,A5,ints,rows,A4,A6];apply hN;apply AW.ret;simp-dsimp-implicitDefEqProofs(disch:=omega)only[go_sem];exact bt (EN ⟨by omega,fun j hj=>hI j (by omega)⟩).symm
theorem IB(os:List Int)(pw:List (List Int))(cj:List (List (List Int)))(i:Nat)(hi:i<os.length)(v:List Int)(ho:os.length≤1048576)(OL:∀k,k<os.length→0≤os.getD k 0∧os.getD k 0≤1000)(hv:v.length≤1048576):BG Tryz.prog 106 [A5 os pw cj,.i .i64 i,ints v] (.b (tf (mW os v i))):=by
 refine BG.AM A9 Tryz.func106 rfl (by kernel_rfl) Tryz.ntmps106 Tryz.results106 (.b _) (fun nx cX=>?_)
 refine sQ fun N hN=>?_;simp-dsimp-implicitDefEqProofs(disch:=omega)only[go_sem,ints];apply hN;refine sQ fun N hN=>?_;simp-dsimp-implicitDefEqProofs(disch:=omega)only[go_sem,ints];refine AC.pure (.of (EY os pw cj v ho OL hv)) ?_;try simp-dsimp-implicitDefEqProofs(disch:=omega)only[go_sem,ints]
 refine C9.mk' (fun h1=>?_) (fun h1=>?_)
 ·try simp only[cn]at h1
  try simp-dsimp-implicitDefEqProofs(disch:=omega)only[go_sem,ints]
  have wW:=h1.1;refine⟨by omega,?_⟩;rw[l9 _ (by omega)];refine AC.pure (.of (UD (v.take (i+1)) (by simp;omega))) ?_;try simp-dsimp-implicitDefEqProofs(disch:=omega)only[go_sem,ints]
  apply hN;apply AW.ret;simp-dsimp-implicitDefEqProofs(disch:=omega)only[go_sem];exact bt (RX (by rw[iM hi];exact⟨fun h=>⟨h1,h⟩,fun h=>h.2⟩))
 try simp only[cn]at h1
 try simp-dsimp-implicitDefEqProofs(disch:=omega)only[go_sem,ints]
 apply hN;apply AW.ret;simp-dsimp-implicitDefEqProofs(disch:=omega)only[go_sem];exact bt (CE (fun h=>h1 ((iM hi).1 h).1)).symm
theorem E1(os:List Int)(ho:os.length≤6)(hp:∀i,i<os.length→J0 (os.getD i 0)):BG Tryz.prog 117 [ints os] (.i .i64 (JN os os.length)):=by
 refine BG.AM A9 Tryz.func117 rfl (by kernel_rfl) Tryz.ntmps117 Tryz.results117 (.i _ _) (fun nx cX=>?_)
 refine sQ fun N hN=>?_;simp-dsimp-implicitDefEqProofs(disch:=omega)only[go_sem,ints,A6];apply hN;refine sQ fun N hN=>?_;simp-dsimp-implicitDefEqProofs(disch:=omega)only[go_sem,ints,A6];apply hN;refine AW.seq fun N1 BC=>?_;refine sQ fun N hN=>?_;simp-dsimp-implicitDefEqProofs(disch:=omega)only[go_sem,ints,A6];apply hN;apply AW.block;refine AW.AF (α:=Nat) (fun x=>sl 20 [(0,ints os),(3,.i .i64 (JN os x)),(4,.i .i64 x)]) (fun _=>BN) (fun x m=>x≤os.length) (fun x=>os.length-x) (0) ?_ ?_ (fun _ _ h=>h) ?_
 ·omega
 ·simp(disch:=omega) [AO,AQ,sl,ints,JN]
 skip
 rintro k m hk
 simp-dsimp-implicitDefEqProofs(disch:=omega)only[go_sem];refine AW.seq fun N2 BM=>?_;refine sQ fun N hN=>?_;simp-dsimp-implicitDefEqProofs(disch:=omega)only[go_sem,ints,A6];apply hN;refine AW.cond rfl ?_ ?_<;>intro h1
 ·try simp only[cn]at h1
  have h5:=TH hp k (by omega);have h4:=D0 (hp k (by omega));apply AW.skip;apply BM;refine AW.seq fun N3 BQ=>?_;apply AW.block;refine sQ fun N hN=>?_;simp-dsimp-implicitDefEqProofs(disch:=omega)only[go_sem,ints,A6];apply hN;refine AW.cond rfl ?_ ?_<;>intro h2
  ·try simp only[cn]at h2
   have h6:=QY h5.1.1 h2 (show 1≤os.getD k 0 by omega) (show os.getD k 0≤7 by omega);have h7:JN os (k+1)=JN os k*os.getD k 0:=by rw[JN,if_pos h2]
   apply rQ;simp-dsimp-implicitDefEqProofs(disch:=omega)only[go_sem,ints,A6];apply BQ;apply rQ;simp-dsimp-implicitDefEqProofs(disch:=omega)only[go_sem,ints,A6];refine⟨k+1,?_,fun _ _ h=>h,?_,?_⟩
   ·simp(disch:=omega) [AO,AQ,sl,AJ,ints,h7]<;>omega
   ·omega
   first|omega|(simp only;omega)
  try simp only[cn]at h2
  have h7:JN os (k+1)=JN os k:=by rw[JN,if_neg (by omega)]
  apply AW.skip;apply BQ;apply rQ;simp-dsimp-implicitDefEqProofs(disch:=omega)only[go_sem,ints,A6];refine⟨k+1,?_,fun _ _ h=>h,?_,?_⟩
  ·simp(disch:=omega) [AO,AQ,sl,AJ,ints,h7]<;>omega
  ·omega
  first|omega|(simp only;omega)
 try simp only[cn]at h1
 apply AW.exit;apply BC;refine sQ fun N hN=>?_;simp-dsimp-implicitDefEqProofs(disch:=omega)only[go_sem,ints,A6];apply hN;apply AW.ret;simp-dsimp-implicitDefEqProofs(disch:=omega)only[go_sem];rw[show k=os.length by omega]
structure GX(os:List Int)(pw:List (List Int))(cj:List (List (List Int))):Prop where
  o:os.length≤1048576
  r:MY pw cj
theorem AI.ob{os:List Int}{pw:List (List Int)}{cj:List (List (List Int))}(h:∀i,i<os.length→J0 (os.getD i 0)):∀k,k<os.length→0≤os.getD k 0∧os.getD k 0≤1000:=fun k hk=>by have:=D0 (h k hk);omega
theorem D5(os:List Int)(pw:List (List Int))(cj:List (List (List Int)))(hl:GX os pw cj):BG Tryz.prog 85 [A8 os pw cj] (.b (tf (AI os pw cj))):=by
 have ho:=hl.o
 have hn:=hl.r.n
 have hb:=hl.r.b
 refine BG.AM A9 Tryz.func85 rfl (by kernel_rfl) Tryz.ntmps85 Tryz.results85 (.b _) (fun nx cX=>?_)
 refine sQ fun N hN=>?_;simp-dsimp-implicitDefEqProofs(disch:=omega)only[go_sem,A8,ints,rows,A4,A6,A7,AB];apply hN;refine AW.B5 1 nx _ rfl (A1 _ _ _) ?_
 simp-dsimp-implicitDefEqProofs(disch:=omega)only[go_sem];refine sQ fun N hN=>?_;simp-dsimp-implicitDefEqProofs(disch:=omega)only[go_sem,A8,ints,rows,A4,A6,A7,AB];apply hN;refine AW.seq fun N1 BC=>?_;refine sQ fun N hN=>?_;simp-dsimp-implicitDefEqProofs(disch:=omega)only[go_sem,A8,ints,rows,A4,A6,A7,AB];refine C9.mk' (fun h1=>?_) (fun h1=>?_)
 ·try simp only[cn]at h1
  try simp-dsimp-implicitDefEqProofs(disch:=omega)only[go_sem,A8,ints,rows,A4,A6,A7,AB]
  refine C9.mk' (fun h2=>?_) (fun h2=>?_)
  ·try simp only[cn]at h2
   try simp-dsimp-implicitDefEqProofs(disch:=omega)only[go_sem,A8,ints,rows,A4,A6,A7,AB]
   apply hN;refine AW.cond rfl ?_ ?_<;>intro h3
   ·(try simp only[cn]at h3);refine sQ fun N hN=>?_;simp-dsimp-implicitDefEqProofs(disch:=omega)only[go_sem,A8,ints,rows,A4,A6,A7,AB];apply hN;apply AW.ret;simp-dsimp-implicitDefEqProofs(disch:=omega)only[go_sem];exact bt (CE (fun h=>h3 (by rw[h.1.2.2]))).symm
   try simp only[cn]at h3
   apply AW.skip;apply BC;refine AW.seq fun N2 BM=>?_;refine sQ fun N hN=>?_;simp-dsimp-implicitDefEqProofs(disch:=omega)only[go_sem,A8,ints,rows,A4,A6,A7,AB];apply hN;apply AW.block;refine AW.AF (α:=Nat) (fun x=>sl 93 [(1,A5 os pw cj),(3,.i .i64 os.length),(4,.i .i64 x)]) (fun _=>BN) (fun x m=>x≤os.length∧∀j,j<x→J0 (os.getD j 0)) (fun x=>os.length-x) (0) ?_ ?_ (Le.del (by simp[BN])) ?_
   ·exact⟨by omega,by intro j hj;omega⟩
   ·simp(disch:=omega) [AO,AQ,sl,A5,ints,rows,A4]
   skip
   rintro k m ⟨hk,hI⟩;simp-dsimp-implicitDefEqProofs(disch:=omega)only[go_sem];simp only[A5];refine AW.seq fun N3 BQ=>?_;refine sQ fun N hN=>?_;simp-dsimp-implicitDefEqProofs(disch:=omega)only[go_sem,A8,ints,rows,A4,A6,A7,AB];apply hN;refine AW.cond rfl ?_ ?_<;>intro h4
   ·(try simp only[cn]at h4);apply AW.skip;apply BQ;refine AW.seq fun N4 CG=>?_;apply AW.block;refine sQ fun N hN=>?_;simp-dsimp-implicitDefEqProofs(disch:=omega)only[go_sem,A8,ints,rows,A4,A6,A7,AB];refine AC.pure (.of (GC _)) ?_;try simp-dsimp-implicitDefEqProofs(disch:=omega)only[go_sem,A8,ints,rows,A4,A6,A7,AB]
    apply hN;refine AW.cond rfl ?_ ?_<;>intro h5
    ·(try simp only[cn]at h5);refine sQ fun N hN=>?_;simp-dsimp-implicitDefEqProofs(disch:=omega)only[go_sem,A8,ints,rows,A4,A6,A7,AB];apply hN;apply AW.ret;simp-dsimp-implicitDefEqProofs(disch:=omega)only[go_sem];exact bt (CE (fun h=>h5 (h.2.1 k (by omega)))).symm
    (try simp only[cn]at h5);apply AW.skip;apply CG;apply rQ;simp-dsimp-implicitDefEqProofs(disch:=omega)only[go_sem,A8,ints,rows,A4,A6,A7,AB];refine⟨k+1,?_,fun _ _ h=>h,?_,?_⟩
    ·simp(disch:=omega) [AO,AQ,sl,A5,AJ,ints,rows,A4]<;>omega
    ·refine⟨by omega,fun j hj=>?_⟩;by_cases e:j=k
     ·subst e;exact h5
     exact hI j (by omega)
    first|omega|(simp only;omega)
   try simp only[cn]at h4
   have J2:∀i,i<os.length→J0 (os.getD i 0):=fun i hi=>hI i (by omega)
   have OL:=AI.ob (pw:=pw) (cj:=cj) J2;have Bj:=TH J2 os.length (Nat.le_refl _);apply AW.exit;apply BM;refine AW.seq fun N5 DW=>?_;refine sQ fun N hN=>?_;simp-dsimp-implicitDefEqProofs(disch:=omega)only[go_sem,A8,ints,rows,A4,A6,A7,AB];refine AC.pure (.of (E1 os (by omega) J2)) ?_;try simp-dsimp-implicitDefEqProofs(disch:=omega)only[go_sem,A8,ints,rows,A4,A6,A7,AB]
   apply hN;refine AW.cond rfl ?_ ?_<;>intro h6
   ·(try simp only[cn]at h6);refine sQ fun N hN=>?_;simp-dsimp-implicitDefEqProofs(disch:=omega)only[go_sem,A8,ints,rows,A4,A6,A7,AB];apply hN;apply AW.ret;simp-dsimp-implicitDefEqProofs(disch:=omega)only[go_sem];exact bt (CE (fun h=>by have:=h.2.2.1;omega)).symm
   try simp only[cn]at h6
   apply AW.skip;apply DW;refine AW.seq fun N6 HC=>?_;refine sQ fun N hN=>?_;simp-dsimp-implicitDefEqProofs(disch:=omega)only[go_sem,A8,ints,rows,A4,A6,A7,AB];apply hN;apply AW.block;refine AW.AF (α:=Nat) (fun x=>sl 93 [(1,A5 os pw cj),(3,.i .i64 os.length),(5,.i .i64 x)]) (fun _=>BN) (fun x m=>x≤os.length∧∀j,j<x→lvP os pw cj j) (fun x=>os.length-x) (0) ?_ ?_ (fun _ _ h=>h) ?_
   ·exact⟨by omega,by intro j hj;omega⟩
   ·simp(disch:=omega) [AO,AQ,sl,A5,ints,rows,A4]
   skip
   rintro q m ⟨hq,hJ⟩;simp-dsimp-implicitDefEqProofs(disch:=omega)only[go_sem];simp only[A5];refine AW.seq fun N7 JO=>?_;refine sQ fun N hN=>?_;simp-dsimp-implicitDefEqProofs(disch:=omega)only[go_sem,A8,ints,rows,A4,A6,A7,AB];apply hN;refine AW.cond rfl ?_ ?_<;>intro h7
   ·(try simp only[cn]at h7);have hv:=hl.r.v q;have hr:=hl.r.r q;apply AW.skip;apply JO;refine AW.seq fun N8 JJ=>?_;apply AW.block;refine AW.seq fun N9 M6=>?_;refine AW.seq fun N hN=>?_;refine AW.BI A9 (by kernel_rfl) 23 (by kernel_rfl) ?_
    simp-dsimp-implicitDefEqProofs(disch:=omega)only[B3,B4,BH,List.take_succ_cons,List.take_zero,List.drop_succ_cons,List.drop_zero,List.take_nil,List.drop_nil,go_sem,undef,A8,ints,rows,A4,A6,A7,AB,AJ];refine⟨_,.of (EJ os (pw.getD q []) q (by omega) OL (by omega)),?_⟩;try simp-dsimp-implicitDefEqProofs(disch:=omega)only[go_sem,A8,ints,rows,A4,A6,A7,AB]
    refine C9.mk' (fun h8=>?_) (fun h8=>?_)
    ·(try simp only[cn]at h8);try simp-dsimp-implicitDefEqProofs(disch:=omega)only[go_sem,A8,ints,rows,A4,A6,A7,AB]
     apply hN;refine AW.cond rfl ?_ ?_<;>intro h9
     ·(try simp only[cn]at h9);refine sQ fun N hN=>?_;simp-dsimp-implicitDefEqProofs(disch:=omega)only[go_sem,A8,ints,rows,A4,A6,A7,AB];apply hN;apply AW.ret;simp-dsimp-implicitDefEqProofs(disch:=omega)only[go_sem];exact bt (CE (fun h=>h9 (by have:=(h.2.2.2 q (by omega)).2.1;omega))).symm
     (try simp only[cn]at h9);apply AW.skip;apply M6;refine sQ fun N hN=>?_;simp-dsimp-implicitDefEqProofs(disch:=omega)only[go_sem,A8,ints,rows,A4,A6,A7,AB];apply hN;apply AW.block;refine AW.AF (α:=Nat) (fun x=>sl 93 [(1,A5 os pw cj),(3,.i .i64 os.length),(5,.i .i64 q),(6,.i .i64 x)]) (fun _=>BN) (fun x m=>x≤(cj.getD q []).length∧∀j,j<x→mW os ((cj.getD q []).getD j []) q) (fun x=>(cj.getD q []).length-x) (0) ?_ ?_ (fun _ _ h=>h) ?_
     ·exact⟨by omega,by intro j hj;omega⟩
     ·simp(disch:=omega) [AO,AQ,sl,A5,ints,rows,A4]
     skip
     rintro t m ⟨ht,hT⟩;simp-dsimp-implicitDefEqProofs(disch:=omega)only[go_sem];simp only[A5];refine AW.seq fun lF FW=>?_;refine sQ fun N hN=>?_;simp-dsimp-implicitDefEqProofs(disch:=omega)only[go_sem,A8,ints,rows,A4,A6,A7,AB];apply hN;refine AW.cond rfl ?_ ?_<;>intro LU
     ·(try simp only[cn]at LU);have he:=hl.r.e q t;apply AW.skip;apply FW;refine AW.seq fun p5 HI=>?_;apply AW.block;refine AW.seq fun N hN=>?_;refine AW.BI A9 (by kernel_rfl) 13 (by kernel_rfl) ?_
      simp-dsimp-implicitDefEqProofs(disch:=omega)only[B3,B4,BH,List.take_succ_cons,List.take_zero,List.drop_succ_cons,List.drop_zero,List.take_nil,List.drop_nil,go_sem,undef,A8,ints,rows,A4,A6,A7,AB,AJ];refine⟨_,.of (EJ os ((cj.getD q []).getD t []) q (by omega) OL (by omega)),?_⟩;try simp-dsimp-implicitDefEqProofs(disch:=omega)only[go_sem,A8,ints,rows,A4,A6,A7,AB]
      apply hN;refine AW.cond rfl ?_ ?_<;>intro IN
      ·(try simp only[cn]at IN);refine sQ fun N hN=>?_;simp-dsimp-implicitDefEqProofs(disch:=omega)only[go_sem,A8,ints,rows,A4,A6,A7,AB];apply hN;apply AW.ret;simp-dsimp-implicitDefEqProofs(disch:=omega)only[go_sem];exact bt (CE (fun h=>IN ((h.2.2.2 q (by omega)).2.2 t (by omega)))).symm
      (try simp only[cn]at IN);apply AW.skip;apply HI;apply rQ;simp-dsimp-implicitDefEqProofs(disch:=omega)only[go_sem,A8,ints,rows,A4,A6,A7,AB];refine⟨t+1,?_,fun _ _ h=>h,?_,?_⟩
      ·simp(disch:=omega) [AO,AQ,sl,A5,AJ,ints,rows,A4]<;>omega
      ·refine⟨by omega,fun j hj=>?_⟩;by_cases e:j=t
       ·subst e;exact IN
       exact hT j (by omega)
      first|omega|(simp only;omega)
     (try simp only[cn]at LU);apply AW.exit;apply JJ;apply rQ;simp-dsimp-implicitDefEqProofs(disch:=omega)only[go_sem,A8,ints,rows,A4,A6,A7,AB];refine⟨q+1,?_,fun _ _ h=>h,?_,?_⟩
     ·simp(disch:=omega) [AO,AQ,sl,A5,AJ,ints,rows,A4]<;>omega
     ·refine⟨by omega,fun j hj=>?_⟩;by_cases e:j=q
      ·subst e;exact⟨h8,by omega,fun i hi=>hT i (by omega)⟩
      exact hJ j (by omega)
     first|omega|(simp only;omega)
    (try simp only[cn]at h8);try simp-dsimp-implicitDefEqProofs(disch:=omega)only[go_sem,A8,ints,rows,A4,A6,A7,AB]
    apply hN;refine AW.DX rfl ?_;refine sQ fun N hN=>?_;simp-dsimp-implicitDefEqProofs(disch:=omega)only[go_sem,A8,ints,rows,A4,A6,A7,AB];apply hN;apply AW.ret;simp-dsimp-implicitDefEqProofs(disch:=omega)only[go_sem];exact bt (CE (fun h=>h8 (h.2.2.2 q (by omega)).1)).symm
   try simp only[cn]at h7
   apply AW.exit;apply HC;refine sQ fun N hN=>?_;simp-dsimp-implicitDefEqProofs(disch:=omega)only[go_sem,A8,ints,rows,A4,A6,A7,AB];apply hN;apply AW.ret;simp-dsimp-implicitDefEqProofs(disch:=omega)only[go_sem];exact bt (EN ⟨⟨by omega,by omega,by omega⟩,J2,by omega,fun i hi=>hJ i (by omega)⟩).symm
  try simp only[cn]at h2
  try simp-dsimp-implicitDefEqProofs(disch:=omega)only[go_sem,A8,ints,rows,A4,A6,A7,AB]
  apply hN;refine AW.DX rfl ?_;refine sQ fun N hN=>?_;simp-dsimp-implicitDefEqProofs(disch:=omega)only[go_sem,A8,ints,rows,A4,A6,A7,AB];apply hN;apply AW.ret;simp-dsimp-implicitDefEqProofs(disch:=omega)only[go_sem];exact bt (CE (fun h=>h2 (by rw[h.1.2.1]))).symm
 try simp only[cn]at h1
 try simp-dsimp-implicitDefEqProofs(disch:=omega)only[go_sem,A8,ints,rows,A4,A6,A7,AB]
 apply hN;refine AW.DX rfl ?_;refine sQ fun N hN=>?_;simp-dsimp-implicitDefEqProofs(disch:=omega)only[go_sem,A8,ints,rows,A4,A6,A7,AB];apply hN;apply AW.ret;simp-dsimp-implicitDefEqProofs(disch:=omega)only[go_sem];exact bt (CE (fun h=>by have:=h.1.1;omega)).symm
theorem KF(os:List Int)(pw:List (List Int))(cj:List (List (List Int)))(hl:GX os pw cj):BG Tryz.prog 66 [A8 os pw cj] (.b (tf (AI os pw cj))):=by
 have ho:=hl.o
 have hn:=hl.r.n
 have hb:=hl.r.b
 refine BG.AM A9 Tryz.func66 rfl (by kernel_rfl) Tryz.ntmps66 Tryz.results66 (.b _) (fun nx cX=>?_)
 refine sQ fun N hN=>?_;simp-dsimp-implicitDefEqProofs(disch:=omega)only[go_sem,A8,ints,rows,A4,A6,A7,AB];apply hN;refine AW.B5 1 nx _ rfl (A1 _ _ _) ?_
 simp-dsimp-implicitDefEqProofs(disch:=omega)only[go_sem];refine sQ fun N hN=>?_;simp-dsimp-implicitDefEqProofs(disch:=omega)only[go_sem,A8,ints,rows,A4,A6,A7,AB];apply hN;refine AW.seq fun N1 BC=>?_;refine sQ fun N hN=>?_;simp-dsimp-implicitDefEqProofs(disch:=omega)only[go_sem,A8,ints,rows,A4,A6,A7,AB];refine C9.mk' (fun h1=>?_) (fun h1=>?_)
 ·try simp only[cn]at h1
  try simp-dsimp-implicitDefEqProofs(disch:=omega)only[go_sem,A8,ints,rows,A4,A6,A7,AB]
  refine C9.mk' (fun h2=>?_) (fun h2=>?_)
  ·try simp only[cn]at h2
   try simp-dsimp-implicitDefEqProofs(disch:=omega)only[go_sem,A8,ints,rows,A4,A6,A7,AB]
   apply hN;refine AW.cond rfl ?_ ?_<;>intro h3
   ·(try simp only[cn]at h3);refine sQ fun N hN=>?_;simp-dsimp-implicitDefEqProofs(disch:=omega)only[go_sem,A8,ints,rows,A4,A6,A7,AB];apply hN;apply AW.ret;simp-dsimp-implicitDefEqProofs(disch:=omega)only[go_sem];exact bt (CE (fun h=>h3 (by rw[h.1.2.2]))).symm
   try simp only[cn]at h3
   apply AW.skip;apply BC;refine sQ fun N hN=>?_;simp-dsimp-implicitDefEqProofs(disch:=omega)only[go_sem,A8,ints,rows,A4,A6,A7,AB];apply hN;refine AW.seq fun N2 BM=>?_;refine sQ fun N hN=>?_;simp-dsimp-implicitDefEqProofs(disch:=omega)only[go_sem,A8,ints,rows,A4,A6,A7,AB];apply hN;apply AW.block;refine AW.AF (α:=Nat) (fun x=>sl 90 [(1,A5 os pw cj),(3,.i .i64 os.length),(4,.i .i64 (OK os x)),(30,ints os),(31,.i .i64 os.length),(32,.i .i64 x)]) (fun _=>BN) (fun x m=>x≤os.length∧(∀j,j<x→J0 (os.getD j 0))∧1≤OK os x∧OK os x≤729) (fun x=>os.length-x) (0) ?_ ?_ (Le.del (by simp[BN])) ?_
   ·exact⟨by omega,(by intro j hj;omega),by simp[OK],by simp[OK]⟩
   ·simp(disch:=omega) [AO,AQ,sl,A5,ints,rows,A4,OK]
   skip
   rintro k m ⟨hk,hI,PR,OM⟩;simp-dsimp-implicitDefEqProofs(disch:=omega)only[go_sem];simp only[A5];refine sQ fun N hN=>?_;simp-dsimp-implicitDefEqProofs(disch:=omega)only[go_sem,A8,ints,rows,A4,A6,A7,AB];apply hN;refine AW.seq fun N3 BQ=>?_;refine AW.cond rfl ?_ ?_<;>intro h4
   ·(try simp only[cn]at h4);apply AW.skip;apply BQ;refine AW.seq fun N4 CG=>?_;apply AW.block;refine sQ fun N hN=>?_;simp-dsimp-implicitDefEqProofs(disch:=omega)only[go_sem,A8,ints,rows,A4,A6,A7,AB];apply hN;refine AW.seq fun N5 DW=>?_;refine sQ fun N hN=>?_;simp-dsimp-implicitDefEqProofs(disch:=omega)only[go_sem,A8,ints,rows,A4,A6,A7,AB];refine AC.pure (.of (M0 _)) ?_;try simp-dsimp-implicitDefEqProofs(disch:=omega)only[go_sem,A8,ints,rows,A4,A6,A7,AB]
    refine C9.mk' (fun h5=>?_) (fun h5=>?_)
    ·(try simp only[cn]at h5);have mX:=D0 h5;have Mc:=QY PR OM (show 1≤os.getD k 0 by omega) (show os.getD k 0≤7 by omega);try simp-dsimp-implicitDefEqProofs(disch:=omega)only[go_sem,A8,ints,rows,A4,A6,A7,AB]
     apply hN;refine AW.cond rfl ?_ ?_<;>intro h6
     ·(try simp only[cn]at h6);refine sQ fun N hN=>?_;simp-dsimp-implicitDefEqProofs(disch:=omega)only[go_sem,A8,ints,rows,A4,A6,A7,AB];apply hN;apply AW.ret;simp-dsimp-implicitDefEqProofs(disch:=omega)only[go_sem];exact bt (CE (fun h=>by
       have h7:=bA h.2.1 (k:=k+1) (os.length-(k+1)) (by omega);rw[show k+1+(os.length-(k+1))=os.length by omega]at h7;have h8:OK os (k+1)=OK os k*os.getD k 0:=rfl;have:=h.2.2.1;omega)).symm
     (try simp only[cn]at h6);apply AW.skip;apply DW;apply rQ;simp-dsimp-implicitDefEqProofs(disch:=omega)only[go_sem,A8,ints,rows,A4,A6,A7,AB];apply CG;apply rQ;simp-dsimp-implicitDefEqProofs(disch:=omega)only[go_sem,A8,ints,rows,A4,A6,A7,AB];refine⟨k+1,?_,fun _ _ h=>h,?_,?_⟩
     ·simp(disch:=omega) [AO,AQ,sl,A5,AJ,ints,rows,A4,OK]<;>omega
     ·refine⟨by omega,fun j hj=>?_,Mc.1,h6⟩;by_cases e:j=k
      ·subst e;exact h5
      exact hI j (by omega)
     first|omega|(simp only;omega)
    (try simp only[cn]at h5);try simp-dsimp-implicitDefEqProofs(disch:=omega)only[go_sem,A8,ints,rows,A4,A6,A7,AB]
    apply hN;refine AW.DX rfl ?_;refine sQ fun N hN=>?_;simp-dsimp-implicitDefEqProofs(disch:=omega)only[go_sem,A8,ints,rows,A4,A6,A7,AB];apply hN;apply AW.ret;simp-dsimp-implicitDefEqProofs(disch:=omega)only[go_sem];exact bt (CE (fun h=>h5 (h.2.1 k (by omega)))).symm
   try simp only[cn]at h4
   have J2:∀i,i<os.length→J0 (os.getD i 0):=fun i hi=>hI i (by omega)
   have OL:=AI.ob (pw:=pw) (cj:=cj) J2;obtain rfl:k=os.length:=by omega
   apply AW.exit;apply BM;refine AW.seq fun N6 HC=>?_;refine sQ fun N hN=>?_;simp-dsimp-implicitDefEqProofs(disch:=omega)only[go_sem,A8,ints,rows,A4,A6,A7,AB];apply hN;apply AW.block;refine AW.AF (α:=Nat) (fun x=>sl 90 [(1,A5 os pw cj),(3,.i .i64 os.length),(49,.i .i64 os.length),(50,.i .i64 x)]) (fun _=>BN) (fun x m=>x≤os.length∧∀j,j<x→lvP os pw cj j) (fun x=>os.length-x) (0) ?_ ?_ (fun _ _ h=>h) ?_
   ·exact⟨by omega,by intro j hj;omega⟩
   ·simp(disch:=omega) [AO,AQ,sl,A5,ints,rows,A4]
   skip
   rintro q m ⟨hq,hJ⟩;simp-dsimp-implicitDefEqProofs(disch:=omega)only[go_sem];simp only[A5];refine sQ fun N hN=>?_;simp-dsimp-implicitDefEqProofs(disch:=omega)only[go_sem,A8,ints,rows,A4,A6,A7,AB];apply hN;refine AW.seq fun N7 JO=>?_;refine AW.cond rfl ?_ ?_<;>intro h7
   ·(try simp only[cn]at h7);have hv:=hl.r.v q;have hr:=hl.r.r q;apply AW.skip;apply JO;refine AW.seq fun N8 JJ=>?_;apply AW.block;refine sQ fun N hN=>?_;simp-dsimp-implicitDefEqProofs(disch:=omega)only[go_sem,A8,ints,rows,A4,A6,A7,AB];apply hN;refine AW.seq fun N9 M6=>?_;refine sQ fun N hN=>?_;simp-dsimp-implicitDefEqProofs(disch:=omega)only[go_sem,A8,ints,rows,A4,A6,A7,AB];refine AC.pure (.of (IB os pw cj q (by omega) (pw.getD q []) (by omega) OL (by omega))) ?_;try simp-dsimp-implicitDefEqProofs(disch:=omega)only[go_sem,A8,ints,rows,A4,A6,A7,AB]
    refine C9.mk' (fun h8=>?_) (fun h8=>?_)
    ·(try simp only[cn]at h8);try simp-dsimp-implicitDefEqProofs(disch:=omega)only[go_sem,A8,ints,rows,A4,A6,A7,AB]
     apply hN;refine AW.cond rfl ?_ ?_<;>intro h9
     ·(try simp only[cn]at h9);refine sQ fun N hN=>?_;simp-dsimp-implicitDefEqProofs(disch:=omega)only[go_sem,A8,ints,rows,A4,A6,A7,AB];apply hN;apply AW.ret;simp-dsimp-implicitDefEqProofs(disch:=omega)only[go_sem];exact bt (CE (fun h=>h9 (by have:=(h.2.2.2 q (by omega)).2.1;omega))).symm
     (try simp only[cn]at h9);apply AW.skip;apply M6;refine sQ fun N hN=>?_;simp-dsimp-implicitDefEqProofs(disch:=omega)only[go_sem,A8,ints,rows,A4,A6,A7,AB];apply hN;apply AW.block;refine AW.AF (α:=Nat) (fun x=>sl 90 [(1,A5 os pw cj),(3,.i .i64 os.length),(7,.i .i64 q),(49,.i .i64 os.length),(50,.i .i64 q),(78,rows (cj.getD q [])),(79,.i .i64 (cj.getD q []).length),(80,.i .i64 x)]) (fun _=>BN) (fun x m=>x≤(cj.getD q []).length∧∀j,j<x→mW os ((cj.getD q []).getD j []) q) (fun x=>(cj.getD q []).length-x) (0) ?_ ?_ (fun _ _ h=>h) ?_
     ·exact⟨by omega,by intro j hj;omega⟩
     ·simp(disch:=omega) [AO,AQ,sl,A5,ints,rows,A4]
     skip
     rintro t m ⟨ht,hT⟩;simp-dsimp-implicitDefEqProofs(disch:=omega)only[go_sem];simp only[A5];refine sQ fun N hN=>?_;simp-dsimp-implicitDefEqProofs(disch:=omega)only[go_sem,A8,ints,rows,A4,A6,A7,AB];apply hN;refine AW.seq fun lF FW=>?_;refine AW.cond rfl ?_ ?_<;>intro LU
     ·(try simp only[cn]at LU);have he:=hl.r.e q t;apply AW.skip;apply FW;refine AW.seq fun p5 HI=>?_;apply AW.block;refine sQ fun N hN=>?_;simp-dsimp-implicitDefEqProofs(disch:=omega)only[go_sem,A8,ints,rows,A4,A6,A7,AB];apply hN;refine sQ fun N hN=>?_;simp-dsimp-implicitDefEqProofs(disch:=omega)only[go_sem,A8,ints,rows,A4,A6,A7,AB];refine AC.pure (.of (IB os pw cj q (by omega) ((cj.getD q []).getD t []) (by omega) OL (by omega))) ?_;try simp-dsimp-implicitDefEqProofs(disch:=omega)only[go_sem,A8,ints,rows,A4,A6,A7,AB]
      apply hN;refine AW.cond rfl ?_ ?_<;>intro IN
      ·(try simp only[cn]at IN);refine sQ fun N hN=>?_;simp-dsimp-implicitDefEqProofs(disch:=omega)only[go_sem,A8,ints,rows,A4,A6,A7,AB];apply hN;apply AW.ret;simp-dsimp-implicitDefEqProofs(disch:=omega)only[go_sem];exact bt (CE (fun h=>IN ((h.2.2.2 q (by omega)).2.2 t (by omega)))).symm
      (try simp only[cn]at IN);apply AW.skip;apply HI;apply rQ;simp-dsimp-implicitDefEqProofs(disch:=omega)only[go_sem,A8,ints,rows,A4,A6,A7,AB];refine⟨t+1,?_,fun _ _ h=>h,?_,?_⟩
      ·simp(disch:=omega) [AO,AQ,sl,A5,AJ,ints,rows,A4]<;>omega
      ·refine⟨by omega,fun j hj=>?_⟩;by_cases e:j=t
       ·subst e;exact IN
       exact hT j (by omega)
      first|omega|(simp only;omega)
     (try simp only[cn]at LU);apply AW.exit;apply JJ;apply rQ;simp-dsimp-implicitDefEqProofs(disch:=omega)only[go_sem,A8,ints,rows,A4,A6,A7,AB];refine⟨q+1,?_,fun _ _ h=>h,?_,?_⟩
     ·simp(disch:=omega) [AO,AQ,sl,A5,AJ,ints,rows,A4]<;>omega
     ·refine⟨by omega,fun j hj=>?_⟩;by_cases e:j=q
      ·subst e;exact⟨h8,by omega,fun i hi=>hT i (by omega)⟩
      exact hJ j (by omega)
     first|omega|(simp only;omega)
    (try simp only[cn]at h8);try simp-dsimp-implicitDefEqProofs(disch:=omega)only[go_sem,A8,ints,rows,A4,A6,A7,AB]
    apply hN;refine AW.DX rfl ?_;refine sQ fun N hN=>?_;simp-dsimp-implicitDefEqProofs(disch:=omega)only[go_sem,A8,ints,rows,A4,A6,A7,AB];apply hN;apply AW.ret;simp-dsimp-implicitDefEqProofs(disch:=omega)only[go_sem];exact bt (CE (fun h=>h8 (h.2.2.2 q (by omega)).1)).symm
   try simp only[cn]at h7
   apply AW.exit;apply HC;refine sQ fun N hN=>?_;simp-dsimp-implicitDefEqProofs(disch:=omega)only[go_sem,A8,ints,rows,A4,A6,A7,AB];apply hN;apply AW.ret;simp-dsimp-implicitDefEqProofs(disch:=omega)only[go_sem];exact bt (EN ⟨⟨by omega,by omega,by omega⟩,J2,OM,fun i hi=>hJ i (by omega)⟩).symm
  try simp only[cn]at h2
  try simp-dsimp-implicitDefEqProofs(disch:=omega)only[go_sem,A8,ints,rows,A4,A6,A7,AB]
  apply hN;refine AW.DX rfl ?_;refine sQ fun N hN=>?_;simp-dsimp-implicitDefEqProofs(disch:=omega)only[go_sem,A8,ints,rows,A4,A6,A7,AB];apply hN;apply AW.ret;simp-dsimp-implicitDefEqProofs(disch:=omega)only[go_sem];exact bt (CE (fun h=>h2 (by rw[h.1.2.1]))).symm
 try simp only[cn]at h1
 try simp-dsimp-implicitDefEqProofs(disch:=omega)only[go_sem,A8,ints,rows,A4,A6,A7,AB]
 apply hN;refine AW.DX rfl ?_;refine sQ fun N hN=>?_;simp-dsimp-implicitDefEqProofs(disch:=omega)only[go_sem,A8,ints,rows,A4,A6,A7,AB];apply hN;apply AW.ret;simp-dsimp-implicitDefEqProofs(disch:=omega)only[go_sem];exact bt (CE (fun h=>by have:=h.1.1;omega)).symm
end Go.Proofs.YtghmeeifjeafmaaGreat
