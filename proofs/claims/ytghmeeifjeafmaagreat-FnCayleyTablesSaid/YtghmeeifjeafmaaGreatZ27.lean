import Derived.Test.YtghmeeifjeafmaaGreatZ08
import Derived.Test.YtghmeeifjeafmaaGreatZ10
import Derived.Test.YtghmeeifjeafmaaGreatZ13
import Derived.Test.YtghmeeifjeafmaaGreatZ18
import Derived.Test.YtghmeeifjeafmaaGreatZ21
import Derived.Test.YtghmeeifjeafmaaGreatZ22
import Derived.Test.YtghmeeifjeafmaaGreatZ26
set_option linter.unusedVariables false
set_option linter.unusedSimpArgs false
namespace Go.Proofs.YtghmeeifjeafmaaGreat
theorem jW{P:Pc}{us:List V}:(HJ P us).length≤P.n:=PZ
def BY(m:List (List Int)×Int):AV:= .t [rows m.1,.i .i64 m.2]
theorem cB(m:List (List Int)×Int):NR (BY m):=NR.ts (fun x hx=>by
  simp only[List.mem_cons,List.not_mem_nil,or_false]at hx;rcases hx with rfl|rfl
  · exact TC _
  exact .i _ _)
theorem Q5{e:Int}:Rd (.t [.nl,.i .i64 e]) (BY ([],e)):=Rd.t2 .nl (.refl _)
theorem Own.rR{a b:Nat}{H:HP}{e:Int}:∃ids,Own a b H (.t [.nl,.i .i64 e]) (BY ([],e)) ids:=
  ⟨_,.t _ _ _ (.cons _ _ _ _ _ _ .nl (.cons _ _ _ _ _ _ (.leaf _ (.i _ _) (.i _ _)) .nil)),by simp,by simp⟩
def z9(os:List Int)(pw:List (List Int))(cj:List (List (List Int)))(xs:List (List Int)):Prop:=pA os pw cj∧xs.length≤4∧OR os xs
noncomputable def uG(os:List Int)(pw:List (List Int))(cj:List (List (List Int)))(xs:List (List Int)):Int:=WV os (HJ (pc os pw cj) (xs.map fl)) (HJ (pc os pw cj) (xs.map fl)).length
noncomputable def rU(os:List Int)(pw:List (List Int))(cj:List (List (List Int)))(xs:List (List Int)):List (List Int)×Int:=
  if tf (z9 os pw cj xs)=true then (if uG os pw cj xs≤128 then (Q4 (pc os pw cj) (xs.map fl),0)else ([],3))else ([],1)
section
variable(os:List Int)(pw:List (List Int))(cj:List (List (List Int)))(xs:List (List Int))
theorem V9(h:¬z9 os pw cj xs):rU os pw cj xs=([],1):=by rw[rU,CE h];rfl
theorem jX(h:z9 os pw cj xs)(h2:¬uG os pw cj xs≤128):rU os pw cj xs=([],3):=by rw[rU,EN h,if_pos rfl,if_neg h2]
theorem jY(h:z9 os pw cj xs)(h2:uG os pw cj xs≤128):rU os pw cj xs=(Q4 (pc os pw cj) (xs.map fl),0):=by rw[rU,EN h,if_pos rfl,if_pos h2]
theorem zA(hp:AI os pw cj)(hc:DI (pc os pw cj) 0){ys:List V}(hl:ys.length≤4)(hys:∀x∈ys,T (pc os pw cj) 0 x):B6 (Q4 (pc os pw cj) ys):=by
  have hcy:jN (pc os pw cj) ys≤729:=by
    unfold jN;split
    · rename_i h;have hq:=Classical.choose_spec h;have z5:=XZ.BS hp.val hc hys _ hq.2;have:=z5.len hp;have:=hq.1;omega
    omega
  refine⟨by rw[Q4,List.length_map,List.length_range];omega,fun x hx=>?_⟩;obtain⟨g,_,rfl⟩:=List.mem_map.1 hx;rw[V5,if_neg (by omega)];omega
theorem Jo(h:z9 os pw cj xs→True):B6 (rU os pw cj xs).1:=by
  by_cases h1:z9 os pw cj xs
  · by_cases h2:uG os pw cj xs≤128
    · rw[jY os pw cj xs h1 h2];exact zA os pw cj h1.1.1 h1.1.2 (by rw[List.length_map];exact h1.2.1) (XU os pw cj h1.2.2)
    rw[jX os pw cj xs h1 h2];exact .nil
  rw[V9 os pw cj xs h1];exact .nil
theorem NS(hl:GX os pw cj)(hx:B6 xs):W9 Tryz.prog 15 [A8 os pw cj,rows xs] (BY (rU os pw cj xs)):=by
 have I6:=hl.o
 have KA:=hx.n
 intro nx
 refine AC.AM A9 Tryz.func15 rfl (by kernel_rfl) Tryz.ntmps15 Tryz.results15 (fun cX=>?_)
 refine sQ fun N hN=>?_;simp-dsimp-implicitDefEqProofs(disch:=omega)only[go_sem,A8,A5,rows];apply hN;refine AW.seq fun N1 BC=>?_;refine AW.B5 2 nx _ rfl (A1 _ _ _) ?_
 simp-dsimp-implicitDefEqProofs(disch:=omega)only[go_sem];refine sQ fun N hN=>?_;simp-dsimp-implicitDefEqProofs(disch:=omega)only[go_sem,A8,A5,rows];refine AC.pure (.of (EZ os pw cj hl xs hx)) ?_;try simp-dsimp-implicitDefEqProofs(disch:=omega)only[go_sem,A8,A5,rows]
 refine C9.mk' (fun h1=>?_) (fun h1=>?_)
 ·try simp only[cn]at h1
  try simp-dsimp-implicitDefEqProofs(disch:=omega)only[go_sem,A8,A5,rows]
  apply hN;refine AW.cond rfl ?_ ?_<;>intro h2
  ·try simp only[cn]at h2
   refine sQ fun N hN=>?_;simp-dsimp-implicitDefEqProofs(disch:=omega)only[go_sem,A8,A5,rows];apply hN;apply AW.ret;simp-dsimp-implicitDefEqProofs(disch:=omega)only[go_sem];rw[V9 os pw cj xs (fun q=>by have:=q.2.1;omega)]
   exact Own.rR
  try simp only[cn]at h2
  have LK:z9 os pw cj xs:=⟨h1.1,by omega,h1.2⟩;have hT:=XU os pw cj h1.2;have hml:(xs.map fl).length=xs.length:=List.length_map _;have YM:=FP os pw cj h1.1.1 h1.1.2 (xs.map fl) (by omega) hT;rw[←IC os h1.2]at YM;have Ug:=Z0 os pw cj h1.1.1 h1.1.2 hT;have E6:=jW (P:=pc os pw cj) (us:=xs.map fl);have LV:(pc os pw cj).n=os.length:=rfl;have J4:=h1.1.1.1.1;have EW:=O4 os pw cj h1.1.1 (HJ (pc os pw cj) (xs.map fl)) (by omega) Ug;have PA:=NP os pw cj h1.1.1 h1.1.2 (xs.map fl) (by omega) hT;rw[←IC os h1.2]at PA;apply AW.skip;apply BC;refine AW.seq fun N2 BM=>?_;refine sQ fun N hN=>?_;simp-dsimp-implicitDefEqProofs(disch:=omega)only[go_sem,A8,A5,rows];refine AC.pure (.of (YM)) ?_;try simp-dsimp-implicitDefEqProofs(disch:=omega)only[go_sem,A8,A5,rows]
  refine AC.pure (.of (EW)) ?_;try simp-dsimp-implicitDefEqProofs(disch:=omega)only[go_sem,A8,A5,rows]
  apply hN;refine AW.cond rfl ?_ ?_<;>intro h3
  ·try simp only[cn]at h3
   refine sQ fun N hN=>?_;simp-dsimp-implicitDefEqProofs(disch:=omega)only[go_sem,A8,A5,rows];apply hN;apply AW.ret;simp-dsimp-implicitDefEqProofs(disch:=omega)only[go_sem];rw[jX os pw cj xs LK (by unfold uG;omega)]
   exact Own.rR
  try simp only[cn]at h3
  apply AW.skip;apply BM;refine sQ fun N hN=>?_;simp-dsimp-implicitDefEqProofs(disch:=omega)only[go_sem,A8,A5,rows];refine AC.own PA (.cons (.refl _) (.cons (.refl _) .nil)) ?_
  intro m1 H1 r1 xC MW hH1 HN;try simp-dsimp-implicitDefEqProofs(disch:=omega)only[go_sem,A8,A5,rows]
  apply hN;apply AW.ret;simp-dsimp-implicitDefEqProofs(disch:=omega)only[go_sem];rw[jY os pw cj xs LK (by unfold uG;omega)];exact(HN.AD (fun _ _ _=>rfl) (by omega) (by omega)).pair
 try simp only[cn]at h1
 try simp-dsimp-implicitDefEqProofs(disch:=omega)only[go_sem,A8,A5,rows]
 apply hN;refine AW.DX rfl ?_;refine sQ fun N hN=>?_;simp-dsimp-implicitDefEqProofs(disch:=omega)only[go_sem,A8,A5,rows];apply hN;apply AW.ret;simp-dsimp-implicitDefEqProofs(disch:=omega)only[go_sem];rw[V9 os pw cj xs (fun q=>h1 ⟨q.1,q.2.2⟩)]
 exact Own.rR
theorem NT(hl:GX os pw cj)(hx:B6 xs):BG Tryz.prog 16 [A8 os pw cj,rows xs] (BY (rU os pw cj xs)):=by
 have I6:=hl.o
 have KA:=hx.n
 refine BG.Ha A9 Tryz.func16 rfl (by kernel_rfl) Tryz.ntmps16 Tryz.results16 ((cB _)) (fun nx cX=>?_)
 refine sQ fun N hN=>?_;simp-dsimp-implicitDefEqProofs(disch:=omega)only[go_sem,A8,A5,rows];apply hN;refine AW.seq fun N1 BC=>?_;refine AW.B5 2 nx _ rfl (A1 _ _ _) ?_
 simp-dsimp-implicitDefEqProofs(disch:=omega)only[go_sem];refine sQ fun N hN=>?_;simp-dsimp-implicitDefEqProofs(disch:=omega)only[go_sem,A8,A5,rows];refine AC.pure (.of (R3 os pw cj hl)) ?_;try simp-dsimp-implicitDefEqProofs(disch:=omega)only[go_sem,A8,A5,rows]
 refine C9.mk' (fun h1=>?_) (fun h1=>?_)
 ·try simp only[cn]at h1
  try simp-dsimp-implicitDefEqProofs(disch:=omega)only[go_sem,A8,A5,rows]
  refine C9.mk' (fun h2=>?_) (fun h2=>?_)
  ·try simp only[cn]at h2
   have OL:=AI.ob (pw:=pw) (cj:=cj) h1.1.2.1;have J4:=h1.1.1.1;try simp-dsimp-implicitDefEqProofs(disch:=omega)only[go_sem,A8,A5,rows]
   refine AC.pure (.of (NJ os pw cj (by omega) OL xs hx)) ?_;try simp-dsimp-implicitDefEqProofs(disch:=omega)only[go_sem,A8,A5,rows]
   apply hN;refine AW.cond rfl ?_ ?_<;>intro h3
   ·(try simp only[cn]at h3);refine sQ fun N hN=>?_;simp-dsimp-implicitDefEqProofs(disch:=omega)only[go_sem,A8,A5,rows];apply hN;apply AW.ret;simp-dsimp-implicitDefEqProofs(disch:=omega)only[go_sem];rw[V9 os pw cj xs (fun q=>h3 q.2.2)]
    exact Q5
   try simp only[cn]at h3
   have LK:z9 os pw cj xs:=⟨h1,by omega,h3⟩;have hT:=XU os pw cj h3;have hml:(xs.map fl).length=xs.length:=List.length_map _;have YM:=RB os pw cj h1.1 h1.2 (xs.map fl) (by omega) hT;rw[←IC os h3]at YM;have Ug:=Z0 os pw cj h1.1 h1.2 hT;have E6:=jW (P:=pc os pw cj) (us:=xs.map fl);have LV:(pc os pw cj).n=os.length:=rfl;have EW:=R7 os pw cj h1.1 (HJ (pc os pw cj) (xs.map fl)) (by omega) Ug;have PA:=RH os pw cj h1.1 h1.2 (xs.map fl) (by omega) hT;rw[←IC os h3]at PA;apply AW.skip;apply BC;refine AW.seq fun N2 BM=>?_;refine AW.seq fun N hN=>?_;refine AW.BI A9 (by kernel_rfl) 6 (by kernel_rfl) ?_
   simp-dsimp-implicitDefEqProofs(disch:=omega)only[B3,B4,BH,List.take_succ_cons,List.take_zero,List.drop_succ_cons,List.drop_zero,List.take_nil,List.drop_nil,go_sem,undef,A8,A5,rows,AJ];refine⟨_,.of (YM),?_⟩;try simp-dsimp-implicitDefEqProofs(disch:=omega)only[go_sem,A8,A5,rows]
   refine⟨_,.of (EW),?_⟩;try simp-dsimp-implicitDefEqProofs(disch:=omega)only[go_sem,A8,A5,rows]
   apply hN;refine AW.cond rfl ?_ ?_<;>intro h4
   ·(try simp only[cn]at h4);refine sQ fun N hN=>?_;simp-dsimp-implicitDefEqProofs(disch:=omega)only[go_sem,A8,A5,rows];apply hN;apply AW.ret;simp-dsimp-implicitDefEqProofs(disch:=omega)only[go_sem];rw[jX os pw cj xs LK (by unfold uG;omega)]
    exact Q5
   try simp only[cn]at h4
   apply AW.skip;apply BM;refine sQ fun N hN=>?_;simp-dsimp-implicitDefEqProofs(disch:=omega)only[go_sem,A8,A5,rows];refine AC.pure (.of (PA)) ?_;try simp-dsimp-implicitDefEqProofs(disch:=omega)only[go_sem,A8,A5,rows]
   apply hN;apply AW.ret;simp-dsimp-implicitDefEqProofs(disch:=omega)only[go_sem];rw[jY os pw cj xs LK (by unfold uG;omega)];exact .refl _
  try simp only[cn]at h2
  try simp-dsimp-implicitDefEqProofs(disch:=omega)only[go_sem,A8,A5,rows]
  apply hN;refine AW.DX rfl ?_;refine sQ fun N hN=>?_;simp-dsimp-implicitDefEqProofs(disch:=omega)only[go_sem,A8,A5,rows];apply hN;apply AW.ret;simp-dsimp-implicitDefEqProofs(disch:=omega)only[go_sem];rw[V9 os pw cj xs (fun q=>by have:=q.2.1;omega)]
  exact Q5
 try simp only[cn]at h1
 try simp-dsimp-implicitDefEqProofs(disch:=omega)only[go_sem,A8,A5,rows]
 apply hN;refine AW.DX rfl ?_;refine sQ fun N hN=>?_;simp-dsimp-implicitDefEqProofs(disch:=omega)only[go_sem,A8,A5,rows];apply hN;apply AW.ret;simp-dsimp-implicitDefEqProofs(disch:=omega)only[go_sem];rw[V9 os pw cj xs (fun q=>h1 q.1)]
 exact Q5
end
end Go.Proofs.YtghmeeifjeafmaaGreat
namespace Go.Proofs.YtghmeeifjeafmaaGreat
def fF(e:List Int):Nat→List Int
  |0=>[]
  |k+1=>fF e k++List.replicate (e.getD k 0).toNat ((k:Int)+1)
theorem TR{e:List Int}(h:∀k,k<e.length→e.getD k 0≤1000):∀k,k≤e.length→(fF e k).length≤1000*k:=by
  intro k;induction k with
  |zero=>intro _;simp[fF]
  | succ k ih=>
    intro hk;have h1:=ih (by omega);have h2:=h k (by omega);rw[fF,List.length_append,List.length_replicate];omega
theorem rV{j:Nat}{a:Int}:List.replicate (j+1) a=List.replicate j a++[a]:=List.replicate_succ'
theorem Vw.ivl{H:HP}{id n:Nat}{K:List Int}(h:H id=some (K.map (AV.i .i64)))(hn:n=K.length):Vw H (.h id 0 n) (ints K):=by
  subst hn;exact Vw.fr h (by simp)
theorem KZ(e:List Int)(he:e.length≤1000)(hv:∀k,k<e.length→0≤e.getD k 0∧e.getD k 0≤1000):BG Tryz.prog 102 [ints e] (ints (fF e e.length)):=by
 have n5:=TR (fun k hk=>(hv k hk).2)
 refine BG.GD A9 Tryz.func102 rfl (by kernel_rfl) Tryz.ntmps102 Tryz.results102 ((TB _)) (fun nx cX=>?_)
 refine sQ fun N hN=>?_;simp-dsimp-implicitDefEqProofs(disch:=omega)only[go_sem,ints,A6];apply hN;refine sQ fun N hN=>?_;simp-dsimp-implicitDefEqProofs(disch:=omega)only[go_sem,ints,A6];apply hN;refine AW.seq fun N1 BC=>?_;refine sQ fun N hN=>?_;simp-dsimp-implicitDefEqProofs(disch:=omega)only[go_sem,ints,A6];apply hN;apply AW.block;refine AW.AF (α:=Nat×Nat×List Int) (fun x=>sl 27 [(0,ints e),(3,.h x.2.1 0 x.2.2.length),(4,.i .i64 x.1)]) (fun x=>AU BN x.2.1 (some (x.2.2.map (.i .i64)))) (fun x m=>(x.1≤e.length∧x.2.1<m)∧x.2.2=fF e x.1) (fun x=>e.length-x.1) ((0,nx+1,[])) ?_ ?_ (by intro d cs hd;simp only[AU,BN,List.map_nil]at hd ⊢;grind) ?_
 ·exact⟨⟨by omega,by first|omega|(dsimp only;omega)⟩,rfl⟩
 ·simp(disch:=omega) [AO,AQ,sl,AJ,ints,rows,A4,ints,AJ,A6]<;>omega
 skip
 rintro⟨k,id,K⟩ m ⟨⟨hk,DA⟩,hK⟩
 dsimp only at hk DA hK ⊢
 refine AW.seq fun N2 BM=>?_;refine sQ fun N hN=>?_;simp-dsimp-implicitDefEqProofs(disch:=omega)only[go_sem,ints,A6];apply hN;refine AW.cond rfl ?_ ?_<;>intro h1
 ·try simp only[cn]at h1
  apply AW.skip;apply BM;refine AW.seq fun N3 BQ=>?_;apply AW.block;refine sQ fun N hN=>?_;simp-dsimp-implicitDefEqProofs(disch:=omega)only[go_sem,ints,A6];apply hN;apply AW.block;refine AW.AF (α:=Nat×Nat×List Int) (fun x=>sl 27 [(0,ints e),(3,.h x.2.1 0 x.2.2.length),(4,.i .i64 k),(5,.i .i64 x.1)]) (fun x=>AU BN x.2.1 (some (x.2.2.map (.i .i64)))) (fun x m=>(x.1≤(e.getD k 0).toNat∧x.2.1<m)∧x.2.2=K++List.replicate x.1 ((k:Int)+1)) (fun x=>(e.getD k 0).toNat-x.1) ((0,id,K)) ?_ ?_ (by exact Le.refl _) ?_
  ·exact⟨⟨by omega,by first|omega|(dsimp only;omega)⟩,by simp⟩
  ·simp(disch:=omega) [AO,AQ,sl,AJ,ints,rows,A4,ints,AJ,A6]<;>omega
  skip
  rintro⟨j,HD,K2⟩ m2 ⟨⟨hj,xW⟩,Zk⟩;have hvk:=hv k (by omega);dsimp only at hj xW Zk ⊢;have Sp:K2.length≤1001000:=by have:=n5 k hk;rw[Zk,hK,List.length_append,List.length_replicate];omega
  refine AW.seq fun N4 CG=>?_;refine sQ fun N hN=>?_;simp-dsimp-implicitDefEqProofs(disch:=omega)only[go_sem,ints,A6];apply hN;refine AW.cond rfl ?_ ?_<;>intro h2
  ·try simp only[cn]at h2
   apply AW.skip;apply CG;refine AW.seq fun N5 DW=>?_;apply AW.block;apply rQ;simp-dsimp-implicitDefEqProofs(disch:=omega)only[go_sem,ints,A6];apply DW;apply rQ;simp-dsimp-implicitDefEqProofs(disch:=omega)only[go_sem,ints,A6];refine⟨(j+1,m2+5+5,K2++[(k:Int)+1]),?_,by intro d cs hd;simp only[AU,BN,B1,List.map_append,List.map_cons,List.map_nil]at hd ⊢;grind,?_,?_⟩
   ·simp(disch:=omega) [AO,AQ,sl,AJ,ints,rows,A4,ints,AJ,A6]<;>omega
   ·exact⟨⟨by omega,by first|omega|(dsimp only;omega)⟩,by simp only[];rw[rV,Zk,List.append_assoc]⟩
   first|omega|(simp only;omega)
  try simp only[cn]at h2
  apply AW.exit;apply BQ;apply rQ;simp-dsimp-implicitDefEqProofs(disch:=omega)only[go_sem,ints,A6];have dT:j=(e.getD k 0).toNat:=by omega
  refine⟨(k+1,HD,K2),?_,fun _ _ h=>h,?_,?_⟩
  ·simp(disch:=omega) [AO,AQ,sl,AJ,ints,rows,A4,ints,AJ,A6]<;>omega
  ·exact⟨⟨by omega,by first|omega|(dsimp only;omega)⟩,by simp only[];rw[fF,Zk,hK,dT]⟩
  first|omega|(simp only;omega)
 try simp only[cn]at h1
 apply AW.exit;apply BC;refine sQ fun N hN=>?_;simp-dsimp-implicitDefEqProofs(disch:=omega)only[go_sem,ints,A6];apply hN;apply AW.ret;simp-dsimp-implicitDefEqProofs(disch:=omega)only[go_sem];have R8:K=fF e e.length:=by rw[hK,show k=e.length by omega]
 rw[←R8]
 exact Vw.ivl (A1 _ _ _) rfl
end Go.Proofs.YtghmeeifjeafmaaGreat
namespace Go.Proofs.YtghmeeifjeafmaaGreat
section
variable{os:List Int}{pw:List (List Int)}{cj:List (List (List Int))}(h:AI os pw cj)
include h
end
section
variable(os:List Int)(pw:List (List Int))(cj:List (List (List Int)))(ot:List Int)(qw:List (List Int))(dj:List (List (List Int)))
def lM:Int:=Yw (OK ot ot.length) os.length
end
end Go.Proofs.YtghmeeifjeafmaaGreat
namespace Go.Proofs.YtghmeeifjeafmaaGreat
theorem AW.name{cX:Ctx}{P:Program}{c:Code}{s:St}{K:Exit→St→Prop}(h:∀N:St→Prop,(∀s',K .normal s'→N s')→AW cX P c s (aO K N)):AW cX P c s K:=
  (h _ (fun _ h=>h)).mono (fun e s' h=>by cases e<;>exact h)
def bk:AV→Nat
  | .h id _ _=>id+1
  |_=>0
def LC(H:HP)(a b:Nat)(L:AV)(cs:List AV):Prop:=(L= .nl∧cs=[])∨∃id,L= .h id 0 cs.length∧H id=some cs∧a≤id∧id<b
def dl(H:HP):AV→HP
  | .h id _ _=>AU H id none
  |_=>H
theorem LC.bd{H:HP}{a b:Nat}{L:AV}{cs:List AV}(h:LC H a b L cs):bk L=0∨(a+1≤bk L∧bk L≤b):=by
  rcases h with ⟨rfl,_⟩|⟨id,rfl,_,h1,h2⟩
  · exact .inl rfl
  right;simp only[bk];omega
theorem LC.one{H:HP}{a b:Nat}{L:AV}{cs:List AV}(h:LC H a b L cs):one L=true:=by
  rcases h with ⟨rfl,_⟩|⟨id,rfl,_,h1,h2⟩<;>rfl
theorem LC.cells{H:HP}{a b:Nat}{L:AV}{cs:List AV}(h:LC H a b L cs):BZ L=[L]∧TZ L=true:=by
  rcases h with ⟨rfl,_⟩|⟨id,rfl,_,h1,h2⟩<;>exact⟨rfl,rfl⟩
theorem LC.len{H:HP}{a b:Nat}{L:AV}{cs:List AV}(h:LC H a b L cs):WJ L=cs.length:=by
  rcases h with ⟨rfl,rfl⟩|⟨id,rfl,_,h1,h2⟩<;>rfl
theorem LC.AU{H:HP}{a b i:Nat}{L:AV}{cs:List AV}{c:Option (List AV)}(hi:i<a∨b≤i)(h:LC H a b L cs):LC (AU H i c) a b L cs:=by
  rcases h with h|⟨id,rfl,h0,h1,h2⟩
  · exact .inl h
  exact .inr ⟨id,rfl,by rw[A0 _ _ (by omega)];exact h0,h1,h2⟩
theorem LC.AD{H H':HP}{a b:Nat}{L:AV}{cs:List AV}(h:LC H a b L cs)(hk:∀i,a≤i→i<b→H' i=H i):LC H' a b L cs:=by
  rcases h with h|⟨id,rfl,h0,h1,h2⟩
  · exact .inl h
  exact .inr ⟨id,rfl,by rw[hk _ h1 h2];exact h0,h1,h2⟩
theorem LC.L1{H H':HP}{a b:Nat}{L:AV}{cs:List AV}(h:LC H a b L cs)(hk:∀i,bk L=i+1→H' i=H i):LC H' a b L cs:=by
  rcases h with h|⟨id,rfl,h0,h1,h2⟩
  · exact .inl h
  exact .inr ⟨id,rfl,by rw[hk _ rfl];exact h0,h1,h2⟩
theorem LC.wide{H:HP}{a b a' b':Nat}{L:AV}{cs:List AV}(h:LC H a b L cs)(h1:a'≤a)(h2:b≤b'):LC H a' b' L cs:=by
  rcases h with h|⟨id,rfl,h0,h3,h4⟩
  · exact .inl h
  exact .inr ⟨id,rfl,h0,by omega,by omega⟩
theorem LC.mk{H:HP}{a b id:Nat}{cs:List AV}{n:Nat}(h:H id=some cs)(hn:n=cs.length)(h1:a≤id)(h2:id<b):LC H a b (.h id 0 n) cs:=by subst hn;exact .inr ⟨id,rfl,h,h1,h2⟩
theorem LC.nil{H:HP}{a b:Nat}:LC H a b .nl []:= .inl ⟨rfl,rfl⟩
theorem AP{H:HP}{L:AV}{i:Nat}(h:bk L≠i+1):dl H L i=H i:=by
  cases L<;>simp only[dl]
  rename_i id o n;simp only[bk]at h;exact A0 _ _ (by omega)
theorem CC{a b:Nat}{L:AV}{cs:List AV}{H:HP}{x:AV}{xs:List AV}{id:Nat}{k:AV→HP→Prop}(h:LC H a b L cs):QT H L (x::xs) id k=k (.h id 0 (cs.length+(xs.length+1))) (Go.Proofs.YtghmeeifjeafmaaGreat.AU (dl H L) id (some (cs++x::xs))):=by
  rcases h with ⟨rfl,rfl⟩|⟨q,rfl,h0,h1,h2⟩
  · simp[QT,dl]
  simp only[QT,h0,dl,aT];simp
theorem dG{x:AV}{xs:List AV}:(x::xs≠ [])=True:=eq_true (by simp)
theorem FI.cut{H:HP}:∀{rs Xs:List AV} {ids:List Nat},FI H rs Xs ids→∀{a:Nat},a<rs.length→∃il is ir,ids=il++(is++ir)∧FI H (rs.take a) (Xs.take a) il∧Ow H (rs.getD a .j) (Xs.getD a .j) is∧FI H (rs.drop (a+1)) (Xs.drop (a+1)) ir:=by
  intro rs;induction rs with
  |nil=>intro Xs ids h a ha;simp at ha
  | cons c rs ih=>
    intro Xs ids h a ha;cases h with
    | cons x y xs ys is js h1 h2=>
      cases a with
      |zero=>exact⟨[],is,js,rfl,.nil,h1,by simpa using h2⟩
      | succ a=>
        obtain⟨il,is',ir,rfl,g1,g2,g3⟩:=ih h2 (a:=a) (by simpa using ha);exact⟨is++il,is',ir,by simp,.cons _ _ _ _ _ _ h1 g1,by simpa using g2,by simpa using g3⟩
theorem FI.set{H:HP}{rs Xs:List AV}{il is ir:List Nat}{a:Nat}{r X:AV}(h1:FI H (rs.take a) (Xs.take a) il)(h2:Ow H r X is)(h3:FI H (rs.drop (a+1)) (Xs.drop (a+1)) ir)(ha:a<rs.length)(hX:a<Xs.length):FI H (rs.set a r) (Xs.set a X) (il++(is++ir)):=by
  rw[List.set_eq_take_append_cons_drop,if_pos ha,List.set_eq_take_append_cons_drop,if_pos hX];exact FI.append h1 (.cons _ _ _ _ _ _ h2 h3)
theorem Ow.VA{H:HP}{r Z:AV}{ids:List Nat}(h:Ow H r Z ids):∀n ts,Z= .v n ts→(r=Z∧ids=[])∨(r= .nl∧n=0∧ts=[]∧ids=[])∨∃id cs CH,r= .h id 0 n∧ids=id::CH∧H id=some cs∧cs.length=n∧FI H cs ts CH:=by
  intro n ts hZ;cases h with
  |leaf _ hf hn=>exact .inl ⟨rfl,rfl⟩
  |nl=>cases hZ;exact .inr (.inl ⟨rfl,rfl,rfl,rfl⟩)
  |h id cs Oy CH g1 g2=>cases hZ;exact .inr (.inr ⟨id,cs,CH,rfl,rfl,g1,rfl,g2⟩)
  |q=>cases hZ
  |g=>cases hZ
  |t=>cases hZ
theorem Ow.lc{H:HP}{a b:Nat}{L:AV}{cs ts:List AV}{ids:List Nat}{n:Nat}(h:Ow H L (.v n ts) ids)(hL:LC H a b L cs):(L= .nl∧cs=[]∧n=0∧ts=[]∧ids=[])∨∃id CH,L= .h id 0 cs.length∧H id=some cs∧n=cs.length∧ids=id::CH∧FI H cs ts CH:=by
  rcases hL with ⟨rfl,rfl⟩|⟨q,rfl,h0,h1,h2⟩
  · rcases h.VA _ _ rfl with ⟨e,_⟩|⟨_,rfl,rfl,rfl⟩|⟨id,cs,CH,e,_⟩
    · cases e
    · exact .inl ⟨rfl,rfl,rfl,rfl,rfl⟩
    cases e
  rcases h.VA _ _ rfl with ⟨e,_⟩|⟨e,_⟩|⟨id,cs2,CH,e,rfl,g1,g2,g3⟩
  · cases e
  · cases e
  injection e with e1 e2 e3
  subst e1;rw[h0]at g1;cases g1;exact .inr ⟨q,CH,rfl,h0,e3.symm,rfl,g3⟩
theorem Ow.more{H H':HP}{a b:Nat}{L:AV}{cs ts:List AV}{ids:List Nat}{id:Nat}{r X:AV}{is:List Nat}(h:Ow H L (.v ts.length ts) ids)(hL:LC H a b L cs)(ho:Ow H' r X is)(E7:H' id=some (cs++[r]))(hk:∀i∈ids,bk L≠i+1→H' i=H i)(CY:ids.Nodup):
    ∃CH,Ow H' (.h id 0 (cs.length+1)) (.v (ts++[X]).length (ts++[X])) (id::(CH++is))∧(∀i∈CH,i∈ids)∧CH.Nodup∧cs.length=ts.length:=by
  rcases h.lc hL with ⟨rfl,rfl,_,rfl,rfl⟩|⟨q,E4,rfl,h0,hl,rfl,g2⟩
  · have:=Ow.h id [r] [X] (is++[]) (by simpa using E7) (.cons _ _ _ _ _ _ ho .nil);exact⟨[],by simpa using this,by simp,by simp,rfl⟩
  have Zf:=List.nodup_cons.1 CY;have g3:=g2.AD (H':=H') (fun i hi=>hk i (by simp[hi]) (by simp only[bk];intro e;exact Zf.1 (by rw[show q=i by omega];exact hi)));have:=Ow.h id (cs++[r]) (ts++[X]) (E4++(is++[])) E7 (FI.append g3 (.cons _ _ _ _ _ _ ho .nil));refine⟨E4,?_,fun i hi=>by simp[hi],Zf.2,hl.symm⟩;rw[List.append_nil]at this;simpa[hl]using this
def WY(a m:Nat)(H:HP)(L:AV)(cs X:List AV):Prop:=LC H a m L cs∧∃ids,Ow H L (.v X.length X) ids∧ids.Nodup∧∀i∈ids,a≤i∧i<m
theorem WY.empty{a m id:Nat}{H:HP}(h:H id=some [])(h1:a≤id)(h2:id<m):WY a m H (.h id 0 0) [] []:=⟨.mk h rfl h1 h2,[id],.h id [] [] [] h .nil,by simp,by simp;omega⟩
theorem WY.AD{a m m':Nat}{H H':HP}{L:AV}{cs X:List AV}(h:WY a m H L cs X)(hk:∀i,a≤i→i<m→H' i=H i)(hm:m≤m'):WY a m' H' L cs X:=by
  obtain⟨h1,ids,h2,h3,h4⟩:=h;exact⟨(h1.AD hk).wide (Nat.le_refl _) hm,ids,h2.AD fun i hi=>hk i (h4 i hi).1 (h4 i hi).2,h3,fun i hi=>by have:=h4 i hi;omega⟩
theorem WY.len{a m:Nat}{H:HP}{L:AV}{cs X:List AV}(h:WY a m H L cs X):cs.length=X.length:=by
  obtain⟨h1,ids,h2,h3,h4⟩:=h;rcases h2.lc h1 with ⟨_,rfl,_,rfl,_⟩|⟨_,_,_,_,e,_⟩
  · rfl
  exact e.symm
theorem WY.push{a m m':Nat}{H H':HP}{L:AV}{cs X:List AV}{id:Nat}{r Y:AV}{is:List Nat}(h:WY a m H L cs X)(ho:Ow H' r Y is)(CY:is.Nodup)(hb:∀i∈is,m≤i∧i<m')(E7:H' id=some (cs++[r]))(DA:m≤id∧id<m')(hni:id∉is)(Bv:a≤m)
    (hk:∀i,a≤i→i<m→bk L≠i+1→H' i=H i):WY a m' H' (.h id 0 (cs.length+1)) (cs++[r]) (X++[Y]):=by
  obtain⟨h1,ids,h2,h3,h4⟩:=h;obtain⟨CH,g1,g2,g3,g4⟩:=h2.more h1 ho E7 (fun i hi=>hk i (h4 i hi).1 (h4 i hi).2) h3;refine⟨.mk E7 (by simp) (by omega) DA.2,_,g1,?_,?_⟩
  · rw[List.nodup_cons,List.nodup_append];refine⟨?_,g3,CY,?_⟩
    · intro hm;rcases List.mem_append.1 hm with hm|hm
      · have:=h4 _ (g2 _ hm);omega
      exact hni hm
    intro x hx y hy e;have:=h4 _ (g2 _ hx);have:=hb _ hy;omega
  intro i hi;rcases List.mem_cons.1 hi with rfl|hi
  · omega
  rcases List.mem_append.1 hi with hi|hi
  · have:=h4 _ (g2 _ hi);omega
  have:=hb _ hi;omega
def DH(a m:Nat)(H:HP)(r P B:AV)(os:List Int)(X:List (List Int))(Y:List (List (List Int))):Prop:=
  ∃i0 i1 i2,(Ow H r (ints os) i0∧Ow H P (rows X) i1∧Ow H B (A4 Y) i2)∧(i0++(i1++i2)).Nodup∧∀i∈i0++(i1++i2),a≤i∧i<m
theorem DH.AD{a m m':Nat}{H H':HP}{r P B:AV}{os:List Int}{X:List (List Int)}{Y:List (List (List Int))}(h:DH a m H r P B os X Y)(hk:∀i,a≤i→i<m→H' i=H i)(hm:m≤m'):DH a m' H' r P B os X Y:=by
  obtain⟨i0,i1,i2,⟨h0,h1,h2⟩,h3,h4⟩:=h;have k:∀i,i∈i0++(i1++i2)→H' i=H i:=fun i hi=>hk i (h4 i hi).1 (h4 i hi).2
  exact⟨i0,i1,i2,⟨h0.AD fun i hi=>k i (by simp[hi]),h1.AD fun i hi=>k i (by simp[hi]),h2.AD fun i hi=>k i (by simp[hi])⟩,h3,fun i hi=>by have:=h4 i hi;omega⟩
theorem DH.own{a m:Nat}{H:HP}{r P B:AV}{os:List Int}{X:List (List Int)}{Y:List (List (List Int))}(h:DH a m H r P B os X Y):∃ids,Own a m H (.g [r,P,B]) (Go.Proofs.YtghmeeifjeafmaaGreat.A8 os X Y) ids:=by
  obtain⟨i0,i1,i2,⟨h0,h1,h2⟩,h3,h4⟩:=h;exact⟨_,.g _ _ _ (.cons _ _ _ _ _ _ h0 (.cons _ _ _ _ _ _ h1 (.cons _ _ _ _ _ _ h2 .nil))),by simpa using h3,by simpa using h4⟩
theorem GG(X:List (List Int)):rows X= .v (X.map ints).length (X.map ints):=by rw[rows,List.length_map]
theorem KP(Y:List (List (List Int))):A4 Y= .v (Y.map rows).length (Y.map rows):=by rw[A4,List.length_map]
theorem Ow.Y6{H:HP}{a b:Nat}{L:AV}{cs ts:List AV}{ids:List Nat}{n:Nat}(h:Ow H L (.v n ts) ids)(hL:LC H a b L cs){i:Nat}(hi:bk L=i+1):i∈ids:=by
  rcases h.lc hL with ⟨rfl,_⟩|⟨q',CH,rfl,_,_,rfl,_⟩
  · cases hi
  simp only[bk]at hi;simp;omega
theorem DH.ne{a m b c b' c':Nat}{H:HP}{r P B:AV}{os:List Int}{X:List (List Int)}{Y:List (List (List Int))}{cs CX:List AV}(h:DH a m H r P B os X Y)(hP:LC H b c P cs)(hB:LC H b' c' B CX):bk P=0∨bk P≠bk B:=by
  obtain⟨i0,i1,i2,⟨h0,h1,h2⟩,h3,h4⟩:=h;by_cases e:bk P=0
  · exact .inl e
  right
  intro e2;have g1:=h1.Y6 hP (i:=bk P-1) (by omega);have g2:=h2.Y6 hB (i:=bk P-1) (by omega);grind
theorem DH.Uh{a m m':Nat}{H H':HP}{r P B:AV}{os:List Int}{X:List (List Int)}{Y:List (List (List Int))}{b c:Nat}{cs:List AV}{id:Nat}{r1:AV}{x:List Int}{is:List Nat}(h:DH a m H r P B os X Y)(hL:LC H b c P cs)(ho:Ow H' r1 (ints x) is)(CY:is.Nodup)(hb:∀i∈is,m≤i∧i<m')
    (E7:H' id=some (cs++[r1])) (DA:m≤id∧id<m') (hni:id∉is) (Bv:a≤m) (hk:∀i,a≤i→i<m→bk P≠i+1→H' i=H i):DH a m' H' r (.h id 0 (cs.length+1)) B os (X++[x]) Y:=by
  obtain⟨i0,i1,i2,⟨h0,h1,h2⟩,h3,h4⟩:=h;rw[GG]at h1;have UM:i1.Nodup:=by grind
  obtain⟨CH,g1,g2,g3,g4⟩:=h1.more hL ho E7 (fun i hi=>hk i (h4 i (by simp[hi])).1 (h4 i (by simp[hi])).2) UM;have T9:∀i,i∈i0∨i∈i2→bk P≠i+1:=by
    intro i hi e;rcases hL with ⟨rfl,_⟩|⟨q,rfl,q0,q1,q2⟩
    · simp only[bk]at e;omega
    simp only[bk]at e;have hq:q∈i1:=by
      rcases h1.lc (.inr ⟨q,rfl,q0,q1,q2⟩)with ⟨e,_⟩|⟨q',CH,e,_,_,rfl,_⟩
      · cases e
      injection e with e1;subst e1;simp
    have:q=i:=by omega
    subst this;grind
  refine⟨i0,id::(CH++is),i2,⟨h0.AD fun i hi=>hk i (h4 i (by simp[hi])).1 (h4 i (by simp[hi])).2 (T9 i (.inl hi)),?_,h2.AD fun i hi=>hk i (h4 i (by simp[hi])).1 (h4 i (by simp[hi])).2 (T9 i (.inr hi))⟩,?_,?_⟩
  · rw[GG,List.map_append];exact g1
  · have h5:∀i∈i0++(i1++i2),i<m:=fun i hi=>(h4 i hi).2
    simp only[List.nodup_append,List.nodup_cons,List.mem_append,List.mem_cons]at h3 h5 ⊢;grind
  intro i hi;simp only[List.mem_append,List.mem_cons]at hi h4;grind
theorem DH.Ca{a m m':Nat}{H H':HP}{r P B:AV}{os:List Int}{X:List (List Int)}{Y:List (List (List Int))}{b c:Nat}{cs:List AV}{id:Nat}{r1:AV}{x:List (List Int)}{is:List Nat}(h:DH a m H r P B os X Y)(hL:LC H b c B cs)(ho:Ow H' r1 (rows x) is)(CY:is.Nodup)(hb:∀i∈is,m≤i∧i<m')
    (E7:H' id=some (cs++[r1])) (DA:m≤id∧id<m') (hni:id∉is) (Bv:a≤m) (hk:∀i,a≤i→i<m→bk B≠i+1→H' i=H i):DH a m' H' r P (.h id 0 (cs.length+1)) os X (Y++[x]):=by
  obtain⟨i0,i1,i2,⟨h0,h1,h2⟩,h3,h4⟩:=h;rw[KP]at h2;have UM:i2.Nodup:=by grind
  obtain⟨CH,g1,g2,g3,g4⟩:=h2.more hL ho E7 (fun i hi=>hk i (h4 i (by simp[hi])).1 (h4 i (by simp[hi])).2) UM;have T9:∀i,i∈i0∨i∈i1→bk B≠i+1:=by
    intro i hi e;rcases hL with ⟨rfl,_⟩|⟨q,rfl,q0,q1,q2⟩
    · simp only[bk]at e;omega
    simp only[bk]at e;have hq:q∈i2:=by
      rcases h2.lc (.inr ⟨q,rfl,q0,q1,q2⟩)with ⟨e,_⟩|⟨q',CH,e,_,_,rfl,_⟩
      · cases e
      injection e with e1;subst e1;simp
    have:q=i:=by omega
    subst this;grind
  refine⟨i0,i1,id::(CH++is),⟨h0.AD fun i hi=>hk i (h4 i (by simp[hi])).1 (h4 i (by simp[hi])).2 (T9 i (.inl hi)),h1.AD fun i hi=>hk i (h4 i (by simp[hi])).1 (h4 i (by simp[hi])).2 (T9 i (.inr hi)),?_⟩,?_,?_⟩
  · rw[KP,List.map_append];exact g1
  · have h5:∀i∈i0++(i1++i2),i<m:=fun i hi=>(h4 i hi).2
    simp only[List.nodup_append,List.nodup_cons,List.mem_append,List.mem_cons]at h3 h5 ⊢;grind
  intro i hi;simp only[List.mem_append,List.mem_cons]at hi h4;grind
theorem DH.wide{a a' m m':Nat}{H:HP}{r P B:AV}{os:List Int}{X:List (List Int)}{Y:List (List (List Int))}(h:DH a m H r P B os X Y)(ha:a'≤a)(hm:m≤m'):DH a' m' H r P B os X Y:=by
  obtain⟨i0,i1,i2,h0,h3,h4⟩:=h;exact⟨i0,i1,i2,h0,h3,fun i hi=>by have:=h4 i hi;omega⟩
def WZ:AV→Bool
  | .nl=>true
  | .h _ 0 _=>true
  |_=>false
theorem LC.WZ{H:HP}{a b:Nat}{L:AV}{cs:List AV}(h:LC H a b L cs):WZ L=true:=by
  rcases h with ⟨rfl,_⟩|⟨id,rfl,_,h1,h2⟩<;>rfl
theorem jZ{cs:List AV}{L:AV}(h:∀x∈cs,WZ x=true)(hL:WZ L=true):∀x∈cs++[L],WZ x=true:=by
  intro y hy;rcases List.mem_append.1 hy with hy|hy
  · exact h y hy
  rw[List.mem_singleton.1 hy];exact hL
def OZ(a m:Nat)(H:HP)(r P B:AV)(os:List Int)(X:List (List Int))(Y:List (List (List Int)))(cp cb:List AV):Prop:=DH a m H r P B os X Y∧LC H a m P cp∧LC H a m B cb∧∀x∈cb,Go.Proofs.YtghmeeifjeafmaaGreat.WZ x=true
theorem OZ.AD{a m m':Nat}{H H':HP}{r P B:AV}{os:List Int}{X:List (List Int)}{Y:List (List (List Int))}{cp cb:List AV}(h:OZ a m H r P B os X Y cp cb)(hk:∀i,a≤i→i<m→H' i=H i)(hm:m≤m'):OZ a m' H' r P B os X Y cp cb:=
  ⟨h.1.AD hk hm,(h.2.1.AD hk).wide (Nat.le_refl _) hm,(h.2.2.1.AD hk).wide (Nat.le_refl _) hm,h.2.2.2⟩
theorem OZ.wide{a a' m m':Nat}{H:HP}{r P B:AV}{os:List Int}{X:List (List Int)}{Y:List (List (List Int))}{cp cb:List AV}(h:OZ a m H r P B os X Y cp cb)(ha:a'≤a)(hm:m≤m'):OZ a' m' H r P B os X Y cp cb:=
  ⟨h.1.wide ha hm,h.2.1.wide ha hm,h.2.2.1.wide ha hm,h.2.2.2⟩
theorem OZ.r0{a m:Nat}{H:HP}{r P B:AV}{os:List Int}{X:List (List Int)}{Y:List (List (List Int))}{cp cb:List AV}(h:OZ a m H r P B os X Y cp cb):one r=true:=by
  obtain⟨i0,i1,i2,⟨h0,_⟩,_⟩:=h.1;exact Hb h0
end Go.Proofs.YtghmeeifjeafmaaGreat
