import Derived.Test.YtghmeeifjeafmaaGreatZ15
import Derived.Test.YtghmeeifjeafmaaGreatZ25
import Derived.Test.YtghmeeifjeafmaaGreatZ27
import Derived.Test.YtghmeeifjeafmaaGreatZ37
import Derived.Test.YtghmeeifjeafmaaGreatZ39
set_option linter.unusedVariables false
set_option linter.unusedSimpArgs false
namespace Go.Proofs.YtghmeeifjeafmaaGreat
theorem cW(bs:List Int)(hb:bs.length≤9223372036854775807):BG Tryz.prog 5 [I0 bs] (.b (decide ((bs.length:Int)>4096))):=by
 refine BG.AM A9 Tryz.func5 rfl (by kernel_rfl) Tryz.ntmps5 Tryz.results5 (.b _) (fun nx cX=>?_)
 refine sQ fun N hN=>?_;simp-dsimp-implicitDefEqProofs(disch:=omega)only[go_sem,I0];apply hN;refine sQ fun N hN=>?_;simp-dsimp-implicitDefEqProofs(disch:=omega)only[go_sem,I0];apply hN;apply AW.ret;simp-dsimp-implicitDefEqProofs(disch:=omega)only[go_sem];try rfl
theorem T2(a:List Int)(ha:a.length≤1048576):BG Tryz.prog 30 [ints a,ints a] (.b true):=by
 refine BG.AM A9 Tryz.func30 rfl (by kernel_rfl) Tryz.ntmps30 Tryz.results30 (.b _) (fun nx cX=>?_)
 refine sQ fun N hN=>?_;simp-dsimp-implicitDefEqProofs(disch:=omega)only[go_sem,ints,A6,bne_self_eq_false];apply hN;refine AW.seq fun N1 BC=>?_;refine sQ fun N hN=>?_;simp-dsimp-implicitDefEqProofs(disch:=omega)only[go_sem,ints,A6,bne_self_eq_false];apply hN;refine AW.C8 rfl ?_;apply AW.skip;apply BC;refine AW.seq fun N2 BM=>?_;refine sQ fun N hN=>?_;simp-dsimp-implicitDefEqProofs(disch:=omega)only[go_sem,ints,A6,bne_self_eq_false];apply hN;apply AW.block;refine AW.AF (α:=Nat) (fun x=>sl 26 [(0,ints a),(1,ints a),(5,.i .i64 x)]) (fun _=>BN) (fun x m=>x≤a.length) (fun x=>a.length-x) (0) ?_ ?_ (fun _ _ h=>h) ?_
 ·omega
 ·simp(disch:=omega) [AO,AQ,sl,AJ,ints,rows,A4,ints,A6,AJ,bne_self_eq_false]<;>omega
 skip
 rintro k m hk
 simp-dsimp-implicitDefEqProofs(disch:=omega)only[go_sem];refine AW.seq fun N3 BQ=>?_;refine sQ fun N hN=>?_;simp-dsimp-implicitDefEqProofs(disch:=omega)only[go_sem,ints,A6,bne_self_eq_false];apply hN;refine AW.cond rfl ?_ ?_<;>intro h1
 ·try simp only[cn]at h1
  apply AW.skip;apply BQ;refine AW.seq fun N4 CG=>?_;apply AW.block;refine AW.seq fun N hN=>?_;refine AW.qQ A9 (by kernel_rfl) [true,true,true,true,true,true,true,true,true] (by kernel_rfl) ?_
  simp-dsimp-implicitDefEqProofs(disch:=omega)only[go_sem,ints,A6,bne_self_eq_false];apply hN;refine AW.C8 rfl ?_;apply AW.skip;apply CG;apply rQ;simp-dsimp-implicitDefEqProofs(disch:=omega)only[go_sem,ints,A6,bne_self_eq_false];refine⟨k+1,?_,fun _ _ h=>h,?_,?_⟩
  ·simp(disch:=omega) [AO,AQ,sl,AJ,ints,rows,A4,ints,A6,AJ,bne_self_eq_false]<;>omega
  ·omega
  first|omega|(simp only;omega)
 try simp only[cn]at h1
 apply AW.exit;apply BM;refine sQ fun N hN=>?_;simp-dsimp-implicitDefEqProofs(disch:=omega)only[go_sem,ints,A6,bne_self_eq_false];apply hN;apply AW.ret;simp-dsimp-implicitDefEqProofs(disch:=omega)only[go_sem];all_goals rfl
theorem OA(a:List (List Int))(ha:B6 a):BG Tryz.prog 10 [rows a,rows a] (.b true):=by
 have han:=ha.n
 refine BG.AM A9 Tryz.func10 rfl (by kernel_rfl) Tryz.ntmps10 Tryz.results10 (.b _) (fun nx cX=>?_)
 refine sQ fun N hN=>?_;simp-dsimp-implicitDefEqProofs(disch:=omega)only[go_sem,rows,A7,bne_self_eq_false];apply hN;refine AW.seq fun N1 BC=>?_;refine sQ fun N hN=>?_;simp-dsimp-implicitDefEqProofs(disch:=omega)only[go_sem,rows,A7,bne_self_eq_false];apply hN;refine AW.C8 rfl ?_;apply AW.skip;apply BC;refine AW.seq fun N2 BM=>?_;refine sQ fun N hN=>?_;simp-dsimp-implicitDefEqProofs(disch:=omega)only[go_sem,rows,A7,bne_self_eq_false];apply hN;apply AW.block;refine AW.AF (α:=Nat) (fun x=>sl 27 [(0,rows a),(1,rows a),(5,.i .i64 x)]) (fun _=>BN) (fun x m=>x≤a.length) (fun x=>a.length-x) (0) ?_ ?_ (by intro d cs hd;cases hd) ?_
 ·omega
 ·simp(disch:=omega) [AO,AQ,sl,AJ,ints,rows,A4,rows,A7,AJ,bne_self_eq_false]<;>omega
 skip
 rintro k m hk
 simp-dsimp-implicitDefEqProofs(disch:=omega)only[go_sem];refine AW.seq fun N3 BQ=>?_;refine sQ fun N hN=>?_;simp-dsimp-implicitDefEqProofs(disch:=omega)only[go_sem,rows,A7,bne_self_eq_false];apply hN;refine AW.cond rfl ?_ ?_<;>intro h1
 ·try simp only[cn]at h1
  apply AW.skip;apply BQ;refine AW.seq fun N4 CG=>?_;apply AW.block;refine AW.seq fun N hN=>?_;refine AW.qQ A9 (by kernel_rfl) [true,true,true,true,true,true,true,true,false,false] (by kernel_rfl) ?_
  simp-dsimp-implicitDefEqProofs(disch:=omega)only[go_sem,rows,A7,bne_self_eq_false];refine AC.pure (.of (T2 (a.getD k []) (IA ha.v (by simp) k))) ?_;try simp-dsimp-implicitDefEqProofs(disch:=omega)only[go_sem,rows,A7,bne_self_eq_false]
  apply hN;refine AW.C8 rfl ?_;apply AW.skip;apply CG;apply rQ;simp-dsimp-implicitDefEqProofs(disch:=omega)only[go_sem,rows,A7,bne_self_eq_false];refine⟨k+1,?_,fun _ _ h=>h,?_,?_⟩
  ·simp(disch:=omega) [AO,AQ,sl,AJ,ints,rows,A4,rows,A7,AJ,bne_self_eq_false]<;>omega
  ·omega
  first|omega|(simp only;omega)
 try simp only[cn]at h1
 apply AW.exit;apply BM;refine sQ fun N hN=>?_;simp-dsimp-implicitDefEqProofs(disch:=omega)only[go_sem,rows,A7,bne_self_eq_false];apply hN;apply AW.ret;simp-dsimp-implicitDefEqProofs(disch:=omega)only[go_sem];all_goals rfl
section
variable(os:List Int)(pw:List (List Int))(cj:List (List (List Int)))(ot:List Int)(qw:List (List Int))(dj:List (List (List Int)))
end
end Go.Proofs.YtghmeeifjeafmaaGreat
namespace Go.Proofs.YtghmeeifjeafmaaGreat
theorem mL{n:Nat}{us:List V}:B2 n us=rows (us.map (vec n)):=by
  unfold B2 rows;rw[List.length_map,List.map_map];congr 1
  refine List.map_congr_left fun x _=>?_
  simp only[vi,Function.comp_apply,Go.Proofs.YtghmeeifjeafmaaGreat.ints,C1,HT]
theorem Al{os:List Int}{pw:List (List Int)}{cj:List (List (List Int))}{us:List V}(hu:∀x∈us,T (pc os pw cj) 0 x):OR os (us.map (vec os.length)):=fun k hk=>by
  rw[List.length_map]at hk;have h1:(us.map (vec os.length)).getD k []=vec os.length us[k]:=by simp[hk]
  have h2:=hu us[k] (List.getElem_mem hk);rw[h1];refine⟨C1,fun j hj=>?_⟩;rw[C1]at hj;have h3:=h2.r j (Nat.zero_le _) hj;have h4:(vec os.length us[k]).getD j 0=us[k] j:=by simp[vec,hj]
  have h5:(pc os pw cj).o j=os.getD j 0:=rfl;rw[h4];omega
theorem Am{os:List Int}{pw:List (List Int)}{cj:List (List (List Int))}{us:List V}(hu:∀x∈us,T (pc os pw cj) 0 x):(us.map (vec os.length)).map fl=us:=by
  rw[List.map_map];have:us.map (fl∘vec os.length)=us.map id:=List.map_congr_left fun x hx=>by
    funext k
    show fl (vec os.length x) k=x k
    by_cases hk:k<os.length
    · simp[fl,vec,hk]
    rw[(hu x hx).t k (by show os.length≤k;omega)];have mO:(vec os.length x)[k]? =none:=List.getElem?_eq_none (by rw[C1];omega);simp[fl,mO]
  rw[this,List.map_id]
theorem An{os:List Int}{pw:List (List Int)}{cj:List (List (List Int))}(hp:AI os pw cj)(hc:DI (pc os pw cj) 0){us:List V}(hu:∀x∈us,T (pc os pw cj) 0 x):HJ (pc os pw cj) (HJ (pc os pw cj) us)=HJ (pc os pw cj) us:=by
  have J2:∀d,d<(pc os pw cj).n→J0 ((pc os pw cj).o d):=fun d hd=>hp.2.1 d hd
  have hS:=Z3 hp.val hc J2 hu;have h1:=UZ hp.val hc J2 hu;have h2:=UZ hp.val hc J2 (Bt hp.val hc J2 hu);rw[←h1.gen hp.val hc hS]at h2;exact(h1.uniq hp.val hc hS h2).symm
theorem DG{a:AV}{k:Nat}(h:k<1):[a].getD k .j=a:=by
  obtain rfl:k=0:=by omega
  rfl
section
variable(os:List Int)(pw:List (List Int))(cj:List (List (List Int)))
set_option maxHeartbeats 1000000 in
theorem NY(hl:GX os pw cj)(hg:pA os pw cj)(u:List (List Int))(hx:OR os u)(hn:u.length≤os.length)(E6:HJ (pc os pw cj) (u.map fl)=u.map fl):BG Tryz.prog 51 [A5 os pw cj,.v 1 [rows u]] (.b true):=by
 have J4:=hg.1.1.1
 have Ig:=fY hx (by omega) (by omega)
 have Xq:BG Tryz.prog 34 [A8 os pw cj] (.b true):=by
  have h1:=GY os pw cj hl;rw[EN ⟨hg.1,hg.2⟩]at h1;exact h1
 have YM:=FP os pw cj hg.1 hg.2 (u.map fl) (by rw[List.length_map];omega) (XU os pw cj hx)
 rw[E6,←IC os hx]at YM
 have a9:=RG u u Ig Ig
 rw[EN rfl]at a9
 have hie:∀k,k<u.length→BG Tryz.prog 78 [A5 os pw cj,ints (u.getD k [])] (.b true):=fun k hk=>by
  have h1:=EY os pw cj (u.getD k []) (by omega) (AI.ob (pw:=pw) (cj:=cj) hg.1.2.1) (by have:=(hx k hk).1;omega);rw[EN (hx k hk)]at h1;exact h1
 refine BG.AM A9 Tryz.func51 rfl (by kernel_rfl) Tryz.ntmps51 Tryz.results51 (.b _) (fun nx cX=>?_)
 refine sQ fun N hN=>?_;simp-dsimp-implicitDefEqProofs(disch:=omega)only[go_sem,A8,A5,ints,rows,DG,A7,Bool.not_true];apply hN;refine AW.seq fun N1 BC=>?_;refine sQ fun N hN=>?_;simp-dsimp-implicitDefEqProofs(disch:=omega)only[go_sem,A8,A5,ints,rows,DG,A7,Bool.not_true];refine AC.pure (.of (Xq)) ?_;try simp-dsimp-implicitDefEqProofs(disch:=omega)only[go_sem,A8,A5,ints,rows,DG,A7,Bool.not_true]
 apply hN;refine AW.C8 rfl ?_;apply AW.skip;apply BC;refine AW.seq fun N2 BM=>?_;refine sQ fun N hN=>?_;simp-dsimp-implicitDefEqProofs(disch:=omega)only[go_sem,A8,A5,ints,rows,DG,A7,Bool.not_true];apply hN;apply AW.block;refine AW.AF (α:=Nat) (fun x=>sl 46 [(0,A5 os pw cj),(14,.v 1 [rows u]),(15,.i .i64 1),(16,.i .i64 x)]) (fun _=>BN) (fun x m=>x≤1) (fun x=>1-x) (0) ?_ ?_ (fun _ _ h=>h) ?_
 ·omega
 ·simp(disch:=omega) [AO,AQ,sl,AJ,ints,rows,A4,A8,A5,ints,rows,DG,A7,AJ,Bool.not_true]<;>omega
 skip
 rintro k m hk
 simp-dsimp-implicitDefEqProofs(disch:=omega)only[go_sem];refine sQ fun N hN=>?_;simp-dsimp-implicitDefEqProofs(disch:=omega)only[go_sem,A8,A5,ints,rows,DG,A7,Bool.not_true];apply hN;refine AW.seq fun N3 BQ=>?_;refine AW.cond rfl ?_ ?_<;>intro h1
 ·try simp only[cn]at h1
  apply AW.skip;apply BQ;refine AW.seq fun N4 CG=>?_;apply AW.block;refine sQ fun N hN=>?_;simp-dsimp-implicitDefEqProofs(disch:=omega)only[go_sem,A8,A5,ints,rows,DG,A7,Bool.not_true];apply hN;refine AW.seq fun N5 DW=>?_;refine sQ fun N hN=>?_;simp-dsimp-implicitDefEqProofs(disch:=omega)only[go_sem,A8,A5,ints,rows,DG,A7,Bool.not_true];apply hN;refine AW.cond rfl ?_ ?_<;>intro h2
  ·try simp only[cn]at h2
   exact absurd h2 (by omega)
  try simp only[cn]at h2
  apply AW.skip;apply DW;refine AW.seq fun N6 HC=>?_;refine sQ fun N hN=>?_;simp-dsimp-implicitDefEqProofs(disch:=omega)only[go_sem,A8,A5,ints,rows,DG,A7,Bool.not_true];apply hN;apply AW.block;refine AW.AF (α:=Nat) (fun x=>sl 46 [(0,A5 os pw cj),(6,rows u),(14,.v 1 [rows u]),(15,.i .i64 1),(16,.i .i64 k),(28,rows u),(29,.i .i64 u.length),(30,.i .i64 x)]) (fun _=>BN) (fun x m=>x≤u.length) (fun x=>u.length-x) (0) ?_ ?_ (fun _ _ h=>h) ?_
  ·omega
  ·simp(disch:=omega) [AO,AQ,sl,AJ,ints,rows,A4,A8,A5,ints,rows,DG,A7,AJ,Bool.not_true]<;>omega
  skip
  rintro j m2 hj;simp-dsimp-implicitDefEqProofs(disch:=omega)only[go_sem];refine sQ fun N hN=>?_;simp-dsimp-implicitDefEqProofs(disch:=omega)only[go_sem,A8,A5,ints,rows,DG,A7,Bool.not_true];apply hN;refine AW.seq fun N7 JO=>?_;refine AW.cond rfl ?_ ?_<;>intro h3
  ·try simp only[cn]at h3
   apply AW.skip;apply JO;refine AW.seq fun N8 JJ=>?_;apply AW.block;refine sQ fun N hN=>?_;simp-dsimp-implicitDefEqProofs(disch:=omega)only[go_sem,A8,A5,ints,rows,DG,A7,Bool.not_true];apply hN;refine sQ fun N hN=>?_;simp-dsimp-implicitDefEqProofs(disch:=omega)only[go_sem,A8,A5,ints,rows,DG,A7,Bool.not_true];refine AC.pure (.of (hie j (by omega))) ?_;try simp-dsimp-implicitDefEqProofs(disch:=omega)only[go_sem,A8,A5,ints,rows,DG,A7,Bool.not_true]
   apply hN;refine AW.C8 rfl ?_;apply AW.skip;apply JJ;apply rQ;simp-dsimp-implicitDefEqProofs(disch:=omega)only[go_sem,A8,A5,ints,rows,DG,A7,Bool.not_true];refine⟨j+1,?_,fun _ _ h=>h,?_,?_⟩
   ·simp(disch:=omega) [AO,AQ,sl,AJ,ints,rows,A4,A8,A5,ints,rows,DG,A7,AJ,Bool.not_true]<;>omega
   ·omega
   first|omega|(simp only;omega)
  try simp only[cn]at h3
  apply AW.exit;apply HC;refine sQ fun N hN=>?_;simp-dsimp-implicitDefEqProofs(disch:=omega)only[go_sem,A8,A5,ints,rows,DG,A7,Bool.not_true];refine AC.pure (.of (YM)) ?_;try simp-dsimp-implicitDefEqProofs(disch:=omega)only[go_sem,A8,A5,ints,rows,DG,A7,Bool.not_true]
  refine AC.pure (.of (a9)) ?_;try simp-dsimp-implicitDefEqProofs(disch:=omega)only[go_sem,A8,A5,ints,rows,DG,A7,Bool.not_true]
  apply hN;refine AW.C8 rfl ?_;apply AW.skip;apply CG;apply rQ;simp-dsimp-implicitDefEqProofs(disch:=omega)only[go_sem,A8,A5,ints,rows,DG,A7,Bool.not_true];refine⟨k+1,?_,fun _ _ h=>h,?_,?_⟩
  ·simp(disch:=omega) [AO,AQ,sl,AJ,ints,rows,A4,A8,A5,ints,rows,DG,A7,AJ,Bool.not_true]<;>omega
  ·omega
  first|omega|(simp only;omega)
 try simp only[cn]at h1
 apply AW.exit;apply BM;refine sQ fun N hN=>?_;simp-dsimp-implicitDefEqProofs(disch:=omega)only[go_sem,A8,A5,ints,rows,DG,A7,Bool.not_true];apply hN;apply AW.ret;simp-dsimp-implicitDefEqProofs(disch:=omega)only[go_sem];skip
theorem MU(hl:GX os pw cj)(hg:pA os pw cj)(u:List (List Int))(hx:OR os u)(hn:u.length≤os.length)(E6:HJ (pc os pw cj) (u.map fl)=u.map fl)(hu:∀k,k<u.length→F1 os.length ((u.map fl).getD k z0)<os.length):BG Tryz.prog 18 [A8 os pw cj,rows u] (E3 (WV os (u.map fl) u.length) 0):=by
 have J4:=hg.1.1.1
 have has:=NY os pw cj hl hg u hx hn E6
 have EW:=O4 os pw cj hg.1 (u.map fl) (by rw[List.length_map];omega) (by rw[List.length_map];exact hu)
 rw[←IC os hx,List.length_map]at EW
 refine BG.AM A9 Tryz.func18 rfl (by kernel_rfl) Tryz.ntmps18 Tryz.results18 (xQ _ _) (fun nx cX=>?_)
 refine sQ fun N hN=>?_;simp-dsimp-implicitDefEqProofs(disch:=omega)only[go_sem,A8,A5,E3,Bool.not_true];apply hN;refine AW.B5 2 nx _ rfl (A1 _ _ _) ?_
 simp-dsimp-implicitDefEqProofs(disch:=omega)only[go_sem];refine AW.seq fun N1 BC=>?_;refine sQ fun N hN=>?_;simp-dsimp-implicitDefEqProofs(disch:=omega)only[go_sem,A8,A5,E3,Bool.not_true];refine AC.pure (.vS (has) (.cons (.refl _) (.cons (.h _ 0 1 [rows u] [rows u] (A1 _ _ _) (Nat.le_refl _) rfl (fun k x y hx hy=>by rw[Nat.zero_add,hy]at hx;cases hx;exact .refl _)) .nil)) (.b _)) ?_
 try simp-dsimp-implicitDefEqProofs(disch:=omega)only[go_sem,A8,A5,E3,Bool.not_true]
 apply hN;refine AW.C8 rfl ?_;apply AW.skip;apply BC;refine sQ fun N hN=>?_;simp-dsimp-implicitDefEqProofs(disch:=omega)only[go_sem,A8,A5,E3,Bool.not_true];refine AC.pure (.of (EW)) ?_;try simp-dsimp-implicitDefEqProofs(disch:=omega)only[go_sem,A8,A5,E3,Bool.not_true]
 apply hN;apply AW.ret;simp-dsimp-implicitDefEqProofs(disch:=omega)only[go_sem];rfl
theorem JG(hl:GX os pw cj)(hg:pA os pw cj)(u:List (List Int))(hx:OR os u)(hn:u.length≤24):BG Tryz.prog 17 [A8 os pw cj,rows u] (BY ((HJ (pc os pw cj) (u.map fl)).map (vec os.length),0)):=by
 have J4:=hg.1.1.1
 have Ig:=fY hx (by omega) (by omega)
 have hae:=EZ os pw cj hl u Ig
 rw[EN ⟨hg,hx⟩]at hae
 have YM:=FP os pw cj hg.1 hg.2 (u.map fl) (by rw[List.length_map];omega) (XU os pw cj hx)
 rw[←IC os hx,mL]at YM
 refine BG.AM A9 Tryz.func17 rfl (by kernel_rfl) Tryz.ntmps17 Tryz.results17 (cB (_,0)) (fun nx cX=>?_)
 refine sQ fun N hN=>?_;simp-dsimp-implicitDefEqProofs(disch:=omega)only[go_sem,A8,A5,rows,BY,Bool.not_true];apply hN;refine AW.B5 2 nx _ rfl (A1 _ _ _) ?_
 simp-dsimp-implicitDefEqProofs(disch:=omega)only[go_sem];refine AW.seq fun N1 BC=>?_;refine sQ fun N hN=>?_;simp-dsimp-implicitDefEqProofs(disch:=omega)only[go_sem,A8,A5,rows,BY,Bool.not_true];refine AC.pure (.of (hae)) ?_;try simp-dsimp-implicitDefEqProofs(disch:=omega)only[go_sem,A8,A5,rows,BY,Bool.not_true]
 apply hN;refine AW.C8 rfl ?_;apply AW.skip;apply BC;refine AW.seq fun N2 BM=>?_;refine sQ fun N hN=>?_;simp-dsimp-implicitDefEqProofs(disch:=omega)only[go_sem,A8,A5,rows,BY,Bool.not_true];apply hN;refine AW.cond rfl ?_ ?_<;>intro h1
 ·try simp only[cn]at h1
  exact absurd h1 (by omega)
 try simp only[cn]at h1
 apply AW.skip;apply BM;refine sQ fun N hN=>?_;simp-dsimp-implicitDefEqProofs(disch:=omega)only[go_sem,A8,A5,rows,BY,Bool.not_true];refine AC.pure (.of (YM)) ?_;try simp-dsimp-implicitDefEqProofs(disch:=omega)only[go_sem,A8,A5,rows,BY,Bool.not_true]
 apply hN;apply AW.ret;simp-dsimp-implicitDefEqProofs(disch:=omega)only[go_sem];all_goals (try simp only[BY,rows,List.length_map])
end
end Go.Proofs.YtghmeeifjeafmaaGreat
namespace Go.Proofs.YtghmeeifjeafmaaGreat
section
variable(os:List Int)(pw:List (List Int))(cj:List (List (List Int)))(W:List (List Int))
theorem tQ(hl:GX os pw cj)(hW:B6 W):
    (∃e:Int,rU os pw cj W=([],e)∧(e !=0)=true)∨
    ∃ tb u:List (List Int),∃N:Int,rU os pw cj W=(tb,0)∧B6 tb∧B6 u∧BG Tryz.prog 17 [A8 os pw cj,rows W] (BY (u,0))∧
      BG Tryz.prog 18 [A8 os pw cj,rows u] (E3 N 0)∧BG Tryz.prog 19 [rows tb,A8 os pw cj,rows W] (.t [.b true,.i .i64 0])∧
      BG Tryz.prog 20 [rows tb] (.b true)∧(tb=[]∨(0<tb.length∧((tb.getD 0 []).length:Int)=N)):=by
  by_cases LK:z9 os pw cj W
  · by_cases ht:uG os pw cj W≤128
    · refine .inr ?_;have hM:=jY os pw cj W LK ht;have I3:=Jo os pw cj W (fun _=>trivial);rw[hM]at I3;obtain⟨hg,h4,hx⟩:=LK;have J4:=hg.1.1.1;have hT:=XU os pw cj hx;have hF:=jT hg.1 hg.2 hT;have hN:=yY hg.1 hg.2 hT;have hml:(W.map fl).length=W.length:=List.length_map _;have J2:∀d,d<(pc os pw cj).n→J0 ((pc os pw cj).o d):=fun d hd=>hg.1.2.1 d hd
      have hcT:=Bt hg.1.val hg.2 J2 hT;have Mi:=(UZ hg.1.val hg.2 J2 hT).len;have LV:(pc os pw cj).n=os.length:=rfl;have Ug:=Z0 os pw cj hg.1 hg.2 hT;have YM:=JG os pw cj hl hg W hx (by omega);have mD:=Am (os:=os) hcT;have hux:=Al (os:=os) hcT;have mP:((HJ (pc os pw cj) (W.map fl)).map (vec os.length)).length=(HJ (pc os pw cj) (W.map fl)).length:=List.length_map _;have Cp:=MU os pw cj hl hg ((HJ (pc os pw cj) (W.map fl)).map (vec os.length)) hux (by omega) (by rw[mD];exact An hg.1 hg.2 hT) (by rw[mD,mP];exact Ug);rw[mD,mP,←hN]at Cp;unfold uG at ht;rw[←hN]at ht;have Xr:=hF.cay hg.1.val hg.2 (by omega) (by omega);have qO:=hF.map (us:=W) rfl;have PA:=LG _ I3;rw[EN Xr]at PA;have Eg:=NL _ I3 os pw cj hl W hW;rw[pE (show cmP _ os pw cj W from ⟨Xr,hg,by rw[II,hml],hx⟩),EN qO]at Eg;refine⟨_,_,_,hM,I3,fY hux (by omega) (by omega),YM,Cp,Eg,PA,?_⟩;rcases Nat.eq_zero_or_pos (Q4 (pc os pw cj) (W.map fl)).length with h0|h0
      · exact .inl (List.length_eq_zero_iff.1 h0)
      exact .inr ⟨h0,by rw[hF.rl 0 h0]⟩
    exact .inl ⟨3,jX os pw cj W LK ht,rfl⟩
  exact .inl ⟨1,V9 os pw cj W LK,rfl⟩
end
theorem KU(bs:List Int)(hb:P2 bs)(cL:bs.length≤4096)(nx:Nat):AC Tryz.prog 14 nx BN [I0 bs] (fun _ _ r=>Xo r):=
  (KT bs hb cL nx).Up fun nx' H' r ⟨r2,g1,g2⟩=>⟨GH nx H',r2,L7.GH,g1,g2⟩
theorem eq_int{a b:Int}(h:a=b):(a==b)=true:=by rw[h];exact beq_self_eq_true b
set_option maxRecDepth 100000 in
set_option maxHeartbeats 4000000 in
theorem P5(bs:List Int)(hb:P2 bs):BG Tryz.prog 4 [I0 bs] (.b true):=by
 have MX:=hb.1
 have FE:((0:Int)+0+0 !=0)=false:=rfl
 have MH:((0:Int)+0)=0:=rfl
 have KV:(((0:Nat):Int)==0)=true:=rfl
 have he:((1:Int) !=0)=true:=rfl
 refine BG.AM A9 Tryz.func4 rfl (by kernel_rfl) Tryz.ntmps4 Tryz.results4 (.b _) (fun nx cX=>?_)
 refine sQ fun N hN=>?_;simp-dsimp-implicitDefEqProofs(disch:=omega)only[go_sem,BY,E3,rows,ints,A7,FE,MH,KV,he,bne_self_eq_false,beq_self_eq_true,Bool.not_true,Bool.not_false];apply hN;refine AW.seq fun N1 BC=>?_;refine sQ fun N hN=>?_;simp-dsimp-implicitDefEqProofs(disch:=omega)only[go_sem,BY,E3,rows,ints,A7,FE,MH,KV,he,bne_self_eq_false,beq_self_eq_true,Bool.not_true,Bool.not_false];refine AC.pure (.of (cW bs MX)) ?_;try simp-dsimp-implicitDefEqProofs(disch:=omega)only[go_sem,BY,E3,rows,ints,A7,FE,MH,KV,he,bne_self_eq_false,beq_self_eq_true,Bool.not_true,Bool.not_false]
 apply hN;refine AW.cond rfl ?_ ?_<;>intro h1
 ·try simp only[cn]at h1
  refine sQ fun N hN=>?_;simp-dsimp-implicitDefEqProofs(disch:=omega)only[go_sem,BY,E3,rows,ints,A7,FE,MH,KV,he,bne_self_eq_false,beq_self_eq_true,Bool.not_true,Bool.not_false];apply hN;apply AW.ret;simp-dsimp-implicitDefEqProofs(disch:=omega)only[go_sem];skip
 try simp only[cn]at h1
 apply AW.skip;apply BC;refine sQ fun N hN=>?_;simp-dsimp-implicitDefEqProofs(disch:=omega)only[go_sem,BY,E3,rows,ints,A7,FE,MH,KV,he,bne_self_eq_false,beq_self_eq_true,Bool.not_true,Bool.not_false];refine(KU bs hb (by omega) _).AG ?_
 rintro m1 H1 r1 MW ⟨os,X,Y,W,rfl,d1,hW,Nh⟩
 have hl:=d1.pl
 have hi:=(NS os X Y W hl hW).pure
 have hs:=NT os X Y W hl hW
 rcases tQ os X Y W hl hW with ⟨e,eM,he⟩|⟨tb,u,N0,eM,Yv,hu,YM,Cp,Eg,PA,R8⟩<;>rw[eM]at hi hs
 ·skip
  have eD:=OA [] .nil;try simp-dsimp-implicitDefEqProofs(disch:=omega)only[go_sem,A8,he]
  apply hN;refine AW.B5 3 (nx+1+2+5) [ints os,rows X,A4 Y] rfl (by simp(disch:=omega)only[A1,A0]) ?_;simp-dsimp-implicitDefEqProofs(disch:=omega)only[go_sem];refine sQ fun N hN=>?_;simp-dsimp-implicitDefEqProofs(disch:=omega)only[go_sem,BY,E3,rows,ints,A7,FE,MH,KV,he,bne_self_eq_false,beq_self_eq_true,Bool.not_true,Bool.not_false];refine AC.pure (.of (hi)) ?_;try simp-dsimp-implicitDefEqProofs(disch:=omega)only[go_sem,BY,E3,rows,ints,A7,FE,MH,KV,he,bne_self_eq_false,beq_self_eq_true,Bool.not_true,Bool.not_false]
  apply hN;refine sQ fun N hN=>?_;simp-dsimp-implicitDefEqProofs(disch:=omega)only[go_sem,BY,E3,rows,ints,A7,FE,MH,KV,he,bne_self_eq_false,beq_self_eq_true,Bool.not_true,Bool.not_false];refine AC.pure (.of (hs)) ?_;try simp-dsimp-implicitDefEqProofs(disch:=omega)only[go_sem,BY,E3,rows,ints,A7,FE,MH,KV,he,bne_self_eq_false,beq_self_eq_true,Bool.not_true,Bool.not_false]
  apply hN;refine AW.seq fun N2 BM=>?_;refine sQ fun N hN=>?_;simp-dsimp-implicitDefEqProofs(disch:=omega)only[go_sem,BY,E3,rows,ints,A7,FE,MH,KV,he,bne_self_eq_false,beq_self_eq_true,Bool.not_true,Bool.not_false];refine AC.pure (.of (eD)) ?_;try simp-dsimp-implicitDefEqProofs(disch:=omega)only[go_sem,BY,E3,rows,ints,A7,FE,MH,KV,he,bne_self_eq_false,beq_self_eq_true,Bool.not_true,Bool.not_false]
  apply hN;refine AW.C8 rfl ?_;apply AW.skip;apply BM;refine AW.seq fun N3 BQ=>?_;refine sQ fun N hN=>?_;simp-dsimp-implicitDefEqProofs(disch:=omega)only[go_sem,BY,E3,rows,ints,A7,FE,MH,KV,he,bne_self_eq_false,beq_self_eq_true,Bool.not_true,Bool.not_false];apply hN;refine AW.DX rfl ?_;refine sQ fun N hN=>?_;simp-dsimp-implicitDefEqProofs(disch:=omega)only[go_sem,BY,E3,rows,ints,A7,FE,MH,KV,he,bne_self_eq_false,beq_self_eq_true,Bool.not_true,Bool.not_false];apply hN;apply AW.ret;simp-dsimp-implicitDefEqProofs(disch:=omega)only[go_sem];all_goals first|rfl|(rcases R8 with e0|⟨h0,Xt⟩<;>first|(rw[eq_int Xt])|(subst e0;exact absurd rfl h2))
 skip
 have eD:=OA tb Yv
 have hun:=hu.n
 have htn:=Yv.n
 try simp-dsimp-implicitDefEqProofs(disch:=omega)only[go_sem,A8]
 apply hN;refine AW.B5 3 (nx+1+2+5) [ints os,rows X,A4 Y] rfl (by simp(disch:=omega)only[A1,A0]) ?_
 simp-dsimp-implicitDefEqProofs(disch:=omega)only[go_sem];refine sQ fun N hN=>?_;simp-dsimp-implicitDefEqProofs(disch:=omega)only[go_sem,BY,E3,rows,ints,A7,FE,MH,KV,he,bne_self_eq_false,beq_self_eq_true,Bool.not_true,Bool.not_false];refine AC.pure (.of (hi)) ?_;try simp-dsimp-implicitDefEqProofs(disch:=omega)only[go_sem,BY,E3,rows,ints,A7,FE,MH,KV,he,bne_self_eq_false,beq_self_eq_true,Bool.not_true,Bool.not_false]
 apply hN;refine sQ fun N hN=>?_;simp-dsimp-implicitDefEqProofs(disch:=omega)only[go_sem,BY,E3,rows,ints,A7,FE,MH,KV,he,bne_self_eq_false,beq_self_eq_true,Bool.not_true,Bool.not_false];refine AC.pure (.of (hs)) ?_;try simp-dsimp-implicitDefEqProofs(disch:=omega)only[go_sem,BY,E3,rows,ints,A7,FE,MH,KV,he,bne_self_eq_false,beq_self_eq_true,Bool.not_true,Bool.not_false]
 apply hN;refine AW.seq fun N4 CG=>?_;refine sQ fun N hN=>?_;simp-dsimp-implicitDefEqProofs(disch:=omega)only[go_sem,BY,E3,rows,ints,A7,FE,MH,KV,he,bne_self_eq_false,beq_self_eq_true,Bool.not_true,Bool.not_false];refine AC.pure (.of (eD)) ?_;try simp-dsimp-implicitDefEqProofs(disch:=omega)only[go_sem,BY,E3,rows,ints,A7,FE,MH,KV,he,bne_self_eq_false,beq_self_eq_true,Bool.not_true,Bool.not_false]
 apply hN;refine AW.C8 rfl ?_;apply AW.skip;apply CG;refine AW.seq fun N5 DW=>?_;refine sQ fun N hN=>?_;simp-dsimp-implicitDefEqProofs(disch:=omega)only[go_sem,BY,E3,rows,ints,A7,FE,MH,KV,he,bne_self_eq_false,beq_self_eq_true,Bool.not_true,Bool.not_false];apply hN;refine AW.C8 rfl ?_;apply AW.skip;apply DW;refine sQ fun N hN=>?_;simp-dsimp-implicitDefEqProofs(disch:=omega)only[go_sem,BY,E3,rows,ints,A7,FE,MH,KV,he,bne_self_eq_false,beq_self_eq_true,Bool.not_true,Bool.not_false];refine AC.pure (.of (YM)) ?_;try simp-dsimp-implicitDefEqProofs(disch:=omega)only[go_sem,BY,E3,rows,ints,A7,FE,MH,KV,he,bne_self_eq_false,beq_self_eq_true,Bool.not_true,Bool.not_false]
 apply hN;refine sQ fun N hN=>?_;simp-dsimp-implicitDefEqProofs(disch:=omega)only[go_sem,BY,E3,rows,ints,A7,FE,MH,KV,he,bne_self_eq_false,beq_self_eq_true,Bool.not_true,Bool.not_false];refine AC.pure (.of (Cp)) ?_;try simp-dsimp-implicitDefEqProofs(disch:=omega)only[go_sem,BY,E3,rows,ints,A7,FE,MH,KV,he,bne_self_eq_false,beq_self_eq_true,Bool.not_true,Bool.not_false]
 apply hN;refine sQ fun N hN=>?_;simp-dsimp-implicitDefEqProofs(disch:=omega)only[go_sem,BY,E3,rows,ints,A7,FE,MH,KV,he,bne_self_eq_false,beq_self_eq_true,Bool.not_true,Bool.not_false];refine AC.pure (.of (Eg)) ?_;try simp-dsimp-implicitDefEqProofs(disch:=omega)only[go_sem,BY,E3,rows,ints,A7,FE,MH,KV,he,bne_self_eq_false,beq_self_eq_true,Bool.not_true,Bool.not_false]
 apply hN;refine AW.seq fun N6 HC=>?_;refine sQ fun N hN=>?_;simp-dsimp-implicitDefEqProofs(disch:=omega)only[go_sem,BY,E3,rows,ints,A7,FE,MH,KV,he,bne_self_eq_false,beq_self_eq_true,Bool.not_true,Bool.not_false];refine AC.pure (.of (PA)) ?_;try simp-dsimp-implicitDefEqProofs(disch:=omega)only[go_sem,BY,E3,rows,ints,A7,FE,MH,KV,he,bne_self_eq_false,beq_self_eq_true,Bool.not_true,Bool.not_false]
 apply hN;refine AW.C8 rfl ?_;apply AW.skip;apply HC;refine sQ fun N hN=>?_;simp-dsimp-implicitDefEqProofs(disch:=omega)only[go_sem,BY,E3,rows,ints,A7,FE,MH,KV,he,bne_self_eq_false,beq_self_eq_true,Bool.not_true,Bool.not_false];refine C9.mk' (fun h2=>?_) (fun h2=>?_)
 ·try simp only[cn]at h2
  try simp-dsimp-implicitDefEqProofs(disch:=omega)only[go_sem,BY,E3,rows,ints,A7,FE,MH,KV,he,bne_self_eq_false,beq_self_eq_true,Bool.not_true,Bool.not_false]
  apply hN;apply AW.ret;simp-dsimp-implicitDefEqProofs(disch:=omega)only[go_sem];all_goals first|rfl|(rcases R8 with e0|⟨h0,Xt⟩<;>first|(rw[eq_int Xt])|(subst e0;exact absurd rfl h2))
 try simp only[cn]at h2
 try simp-dsimp-implicitDefEqProofs(disch:=omega)only[go_sem,BY,E3,rows,ints,A7,FE,MH,KV,he,bne_self_eq_false,beq_self_eq_true,Bool.not_true,Bool.not_false]
 apply hN;apply AW.ret;simp-dsimp-implicitDefEqProofs(disch:=omega)only[go_sem];all_goals first|rfl|(rcases R8 with e0|⟨h0,Xt⟩<;>first|(rw[eq_int Xt])|(subst e0;exact absurd rfl h2))
end Go.Proofs.YtghmeeifjeafmaaGreat
