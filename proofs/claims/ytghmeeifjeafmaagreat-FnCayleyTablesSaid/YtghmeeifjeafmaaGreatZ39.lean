import Derived.Test.YtghmeeifjeafmaaGreatZ38
set_option linter.unusedVariables false
set_option linter.unusedSimpArgs false
namespace Go.Proofs.YtghmeeifjeafmaaGreat
theorem Fz.gv{H H2:HP}{os:List Int}{X:List (List Int)}{Y:List (List (List Int))}:Fz H H2 (.g [ints os,rows X,A4 Y]) (A8 os X Y):= .refl _
theorem W6{bs:List Int}{AT:Nat}{H:HP}(hg:AY bs AT H)(mU:Int)(nx:Nat)(J6:AT<nx):AC Tryz.prog 38 nx H [.q AT 0,.i .i64 mU] (fun nx' H' r=>∃r2,Fz H' (GH nx H') r r2∧fX r2∧AY bs AT H'∧∀i,i<nx→i≠AT→H' i=H i):=by
 refine AC.C2 A9 Tryz.func38 rfl (by kernel_rfl) Tryz.ntmps38 Tryz.results38 (fun C7 cX=>?_)
 refine sQ fun N hN=>?_;simp-dsimp-implicitDefEqProofs(disch:=omega)only[go_sem,A8];apply hN;refine sQ fun N hN=>?_;simp-dsimp-implicitDefEqProofs(disch:=omega)only[go_sem,A8];refine(SY (hg.AD (A0 _ _ (by omega))) mU _ (by omega)).AG ?_
 rintro m1 H1 r1 MW ⟨⟨os,X,Y,rfl,hp⟩,JZ,RW⟩
 have hd:=hp.Nq
 have kG:H1 nx=some [.nl,.nl,.nl]:=(RW nx (by omega) (by omega)).trans (A1 _ _ _)
 have HR:∀i,i<nx→i≠AT→H1 i=H i:=fun i hi AL=>(RW i (by omega) AL).trans (A0 _ _ (by omega))
 try simp-dsimp-implicitDefEqProofs(disch:=omega)only[go_sem,A8]
 apply hN;refine AW.seq fun N1 BC=>?_;refine AW.B5 5 (nx+1+3) [ints os,rows X,A4 Y] rfl (A1 _ _ _) ?_
 refine AW.BD (fun G1 F0=>?_);dsimp only at F0
 have hk:∀i,i<nx+1+3→G1 i=H1 i:=fun i hi=>by rw[←F0];simp(disch:=omega)only[A0]
 have n6:AY bs AT G1:=JZ.AD (hk _ (by omega))
 replace kG:=(hk nx (by omega)).trans kG
 have ME:∀i,i<nx→i≠AT→G1 i=H i:=fun i hi AL=>(hk i (by omega)).trans (HR i hi AL)
 clear F0
 simp-dsimp-implicitDefEqProofs(disch:=omega)only[go_sem];refine sQ fun N hN=>?_;simp-dsimp-implicitDefEqProofs(disch:=omega)only[go_sem,A8];refine(AK n6 24 (by omega) _).AG ?_
 rintro m2 H2 r2 TI ⟨⟨x2,rfl,iQ⟩,LA,EX⟩
 have ZR:=(EX nx (by omega) (by omega)).trans kG
 have LJ:∀i,i<nx→i≠AT→H2 i=H i:=fun i hi AL=>(EX i (by omega) AL).trans (ME i hi AL)
 try simp-dsimp-implicitDefEqProofs(disch:=omega)only[go_sem,A8]
 apply hN;apply AW.block;refine sQ fun N hN=>?_;simp-dsimp-implicitDefEqProofs(disch:=omega)only[go_sem,A8];apply hN;refine AW.cond rfl ?_ ?_<;>intro h1
 ·try simp only[cn]at h1
  refine sQ fun N hN=>?_;simp-dsimp-implicitDefEqProofs(disch:=omega)only[go_sem,A8];refine(W5 LA os X Y hp _ (by omega)).AG ?_
  rintro m3 H3 r3 S9 ⟨⟨Ah,X3,Y3,rfl,Ns⟩,KS,O3⟩;have QO:=(O3 nx (by omega) (by omega)).trans ZR;have dM:∀i,i<nx→i≠AT→H3 i=H i:=fun i hi AL=>(O3 i (by omega) AL).trans (LJ i hi AL)
  try simp-dsimp-implicitDefEqProofs(disch:=omega)only[go_sem,A8,QO]
  apply hN;apply AW.ret;simp-dsimp-implicitDefEqProofs(disch:=omega)only[go_sem];first
  |exact⟨_,fun _ _ h=>h,_,.gv,⟨Ah,X3,Y3,rfl,Ns⟩,KS.AD (A0 _ _ (by omega)),fun i hi AL=>(A0 _ _ (by omega)).trans (dM i hi AL)⟩
  |exact⟨_,fun _ _ h=>h,_,.gv,⟨os,X,Y,rfl,hd⟩,LA.AD (A0 _ _ (by omega)),fun i hi AL=>(A0 _ _ (by omega)).trans (LJ i hi AL)⟩
 try simp only[cn]at h1
 refine AW.seq fun N2 BM=>?_;refine sQ fun N hN=>?_;simp-dsimp-implicitDefEqProofs(disch:=omega)only[go_sem,A8];apply hN;refine AW.cond rfl ?_ ?_<;>intro h2
 ·try simp only[cn]at h2
  apply AW.skip;apply BM;refine AW.cond rfl ?_ ?_<;>intro h3
  ·try simp only[cn]at h3
   refine sQ fun N hN=>?_;simp-dsimp-implicitDefEqProofs(disch:=omega)only[go_sem,A8];refine(MS LA os X Y hp _ (by omega)).AG ?_
   rintro m3 H3 r3 S9 ⟨⟨Ah,X3,Y3,rfl,Ns⟩,KS,O3⟩;have QO:=(O3 nx (by omega) (by omega)).trans ZR;have dM:∀i,i<nx→i≠AT→H3 i=H i:=fun i hi AL=>(O3 i (by omega) AL).trans (LJ i hi AL)
   try simp-dsimp-implicitDefEqProofs(disch:=omega)only[go_sem,A8,QO]
   apply hN;apply AW.ret;simp-dsimp-implicitDefEqProofs(disch:=omega)only[go_sem];first
   |exact⟨_,fun _ _ h=>h,_,.gv,⟨Ah,X3,Y3,rfl,Ns⟩,KS.AD (A0 _ _ (by omega)),fun i hi AL=>(A0 _ _ (by omega)).trans (dM i hi AL)⟩
   |exact⟨_,fun _ _ h=>h,_,.gv,⟨os,X,Y,rfl,hd⟩,LA.AD (A0 _ _ (by omega)),fun i hi AL=>(A0 _ _ (by omega)).trans (LJ i hi AL)⟩
  try simp only[cn]at h3
  exfalso;first|omega|exact h3 h2|simp_all
 try simp only[cn]at h2
 apply rQ;simp-dsimp-implicitDefEqProofs(disch:=omega)only[go_sem,A8];apply BM;refine AW.cond rfl ?_ ?_<;>intro h4
 ·try simp only[cn]at h4
  refine sQ fun N hN=>?_;simp-dsimp-implicitDefEqProofs(disch:=omega)only[go_sem,A8];refine(MS LA os X Y hp _ (by omega)).AG ?_
  rintro m3 H3 r3 S9 ⟨⟨Ah,X3,Y3,rfl,Ns⟩,KS,O3⟩;have QO:=(O3 nx (by omega) (by omega)).trans ZR;have dM:∀i,i<nx→i≠AT→H3 i=H i:=fun i hi AL=>(O3 i (by omega) AL).trans (LJ i hi AL)
  try simp-dsimp-implicitDefEqProofs(disch:=omega)only[go_sem,A8,QO]
  apply hN;apply AW.ret;simp-dsimp-implicitDefEqProofs(disch:=omega)only[go_sem];first
  |exact⟨_,fun _ _ h=>h,_,.gv,⟨Ah,X3,Y3,rfl,Ns⟩,KS.AD (A0 _ _ (by omega)),fun i hi AL=>(A0 _ _ (by omega)).trans (dM i hi AL)⟩
  |exact⟨_,fun _ _ h=>h,_,.gv,⟨os,X,Y,rfl,hd⟩,LA.AD (A0 _ _ (by omega)),fun i hi AL=>(A0 _ _ (by omega)).trans (LJ i hi AL)⟩
 try simp only[cn]at h4
 apply AW.skip;apply BC;refine sQ fun N hN=>?_;simp-dsimp-implicitDefEqProofs(disch:=omega)only[go_sem,A8,ZR];apply hN;apply AW.ret;simp-dsimp-implicitDefEqProofs(disch:=omega)only[go_sem];first
 |exact⟨_,fun _ _ h=>h,_,.gv,⟨Ah,X3,Y3,rfl,Ns⟩,KS.AD (A0 _ _ (by omega)),fun i hi AL=>(A0 _ _ (by omega)).trans (dM i hi AL)⟩
 |exact⟨_,fun _ _ h=>h,_,.gv,⟨os,X,Y,rfl,hd⟩,LA.AD (A0 _ _ (by omega)),fun i hi AL=>(A0 _ _ (by omega)).trans (LJ i hi AL)⟩
theorem MT{bs:List Int}{AT:Nat}{H:HP}(hg:AY bs AT H)(mU:Int)(nx:Nat)(J6:AT<nx):AC Tryz.prog 38 nx H [.q AT 0,.i .i64 mU] (sK bs AT nx H fX):=AC.zs J6 (W6 hg mU nx J6)
def Xm(r:AV):Prop:=∃w,r=ints w∧w.length≤9
theorem Ak{Γ:BV}{ty:TypeId}{H:HP}{a b:Nat}{L:AV}{cs:List AV}{k:AV→Prop}(h:LC H a b L cs){e:TE}(dR:Γ ty=some e){el:TypeId}(he:e.d= .slice el):VX Γ ty L k=k (.i .i64 cs.length):=by
  unfold VX PC;rw[dR];dsimp only;rw[he];rcases h with ⟨rfl,rfl⟩|⟨id,rfl,_⟩<;>rfl
set_option maxHeartbeats 2000000 in
theorem QJ{bs:List Int}{AT:Nat}{H:HP}(hg:AY bs AT H)(os:List Int)(X:List (List Int))(Y:List (List (List Int)))(hd:QI os X Y)(nx:Nat)(J6:AT<nx):AC Tryz.prog 41 nx H [.q AT 0,A8 os X Y] (fun nx' H' r=>∃r2,Fz H' (GH nx H') r r2∧Xm r2∧AY bs AT H'∧∀i,i<nx→i≠AT→H' i=H i):=by
 obtain⟨Cq,nB,mJ,tJ⟩:=id hd
 refine AC.C2 A9 Tryz.func41 rfl (by kernel_rfl) Tryz.ntmps41 Tryz.results41 (fun C7 cX=>?_)
 refine sQ fun N hN=>?_;simp-dsimp-implicitDefEqProofs(disch:=omega)only[go_sem,A8];apply hN;refine AW.B5 3 nx [ints os,rows X,A4 Y] rfl (by simp(disch:=omega)only[A0,A1]) ?_
 simp-dsimp-implicitDefEqProofs(disch:=omega)only[go_sem];refine sQ fun N hN=>?_;simp-dsimp-implicitDefEqProofs(disch:=omega)only[go_sem,A8];apply hN;refine AW.seq fun N1 BC=>?_;refine sQ fun N hN=>?_;simp-dsimp-implicitDefEqProofs(disch:=omega)only[go_sem,A8];apply hN;apply AW.block;refine AW.BD (fun G0 CT=>?_);dsimp only at CT
 have CZ:∀i,i<nx→i≠AT→G0 i=H i:=fun i hi _=>by rw[←CT];simp(disch:=omega)only[A0]
 have Sq:AY bs AT G0:=hg.AD (by rw[←CT];simp(disch:=omega)only[A0])
 have hL0:∀m,nx+3≤m→LC G0 (nx+1) m (.h (nx+2) 0 0) (([]:List Int).map (.i .i64)):=fun m hm=> .mk (by rw[←CT];simp(disch:=omega)only[A1];rfl) rfl (by omega) (by omega)
 clear CT
 refine AW.AF (α:=Nat×HP×AV×List Int) (fun x=>sl 50 [(0,.q AT 0),(3,.p 0 [ints os,rows X,A4 Y]),(5,x.2.2.1),(6,.i .i64 x.1)]) (fun x=>x.2.1) (fun x m=>(x.1≤os.length∧nx+3≤m)∧LC x.2.1 (nx+1) m x.2.2.1 (x.2.2.2.map (.i .i64))∧x.2.2.2.length=x.1∧AY bs AT x.2.1∧∀i,i<nx→i≠AT→x.2.1 i=H i) (fun x=>os.length-x.1) ((0,G0,.h (nx+2) 0 0,[])) ?_ ?_ (fun _ _ h=>h) ?_
 ·exact⟨⟨by simp,by first|omega|(dsimp only;omega)⟩,hL0 _ (by first|omega|(dsimp only;omega)),rfl,Sq,CZ⟩
 ·simp(disch:=omega) [AO,AQ,sl,A8]
 skip
 rintro⟨k,G,L,w⟩ m ⟨⟨hk,hm⟩,hL,hw,JZ,HR⟩
 simp-dsimp-implicitDefEqProofs(disch:=omega)only[go_sem];dsimp only at hk hm hL hw JZ HR ⊢
 have NU:=hL.one
 have KQ:=hL.len
 have dH:=hL.bd
 rw[List.length_map]at KQ
 refine AW.seq fun N2 BM=>?_;refine sQ fun N hN=>?_;simp-dsimp-implicitDefEqProofs(disch:=omega)only[go_sem,A8,ints];apply hN;refine AW.cond rfl ?_ ?_<;>intro h1
 ·try simp only[cn]at h1
  have hod:=tJ (os.getD k 0) (by rw[List.getD_eq_getElem?_getD,List.getElem?_eq_getElem (by omega)];exact List.getElem_mem _);apply AW.skip;apply BM;refine AW.seq fun N3 BQ=>?_;apply AW.block;apply rQ;simp-dsimp-implicitDefEqProofs(disch:=omega)only[go_sem,A8,ints,A6];refine(AK JZ (os.getD k 0) (by omega) _).AG ?_
  rintro m1 H1 r1 MW ⟨⟨y,rfl,hy⟩,LA,EX⟩;have hL1:=hL.AD (H':=H1) (fun z z1 z2=>EX z (by omega) (by omega));try simp-dsimp-implicitDefEqProofs(disch:=(first|omega|((repeat refine LC.AU (by omega) ?_);assumption))) only[go_sem,NU,KQ,CC (a:=nx+1) (b:=m) (L:=L) (cs:=w.map (.i .i64)),List.length_map]
  apply BQ;refine AW.BD (fun G3 D3=>?_);dsimp only at D3;apply rQ;simp-dsimp-implicitDefEqProofs(disch:=omega)only[go_sem,A8];refine⟨(k+1,G3,.h (m+5+9) 0 (w.length+1),w++[y]),?_,fun _ _ h=>h,?_,?_⟩
  ·simp(disch:=omega) [AO,AQ,sl,AJ,A8,hw,ints]
  ·have IZ:LC G3 (nx+1) (m1+3) (.h (m+5+9) 0 (w.length+1)) ((w++[y]).map (.i .i64)):=LC.mk (by rw[←D3,List.map_append];simp(disch:=omega)only[A0,A1];rfl) (by simp) (by omega) (by omega);have KS:AY bs AT G3:=LA.AD (by rw[←D3];simp(disch:=omega)only[A0,AP]);have LJ:∀i,i<nx→i≠AT→G3 i=H i:=fun i hi AL=>by rw[←D3];simp(disch:=omega)only[A0,AP];exact(EX i (by omega) AL).trans (HR i hi AL)
   first|exact⟨⟨by first|omega|(dsimp only;omega),by first|omega|(dsimp only;omega)⟩,IZ,by simp;omega,KS,LJ⟩|exact⟨by first|omega|(dsimp only;omega),IZ,by simp;omega,KS,LJ⟩
  first|omega|(simp only;omega)
 try simp only[cn]at h1
 have n5:w.length≤8:=by omega
 apply AW.exit;apply BC;refine AW.seq fun N4 CG=>?_;refine sQ fun N hN=>?_;simp-dsimp-implicitDefEqProofs(disch:=omega)only[go_sem,A8];refine(AK JZ 40 (by omega) _).AG ?_
 rintro m2 H2 r2 TI ⟨⟨x2,rfl,iQ⟩,LA,EX⟩
 have hL2:=hL.AD (H':=H2) (fun z z1 z2=>EX z (by omega) (by omega))
 have ME:∀i,i<nx→i≠AT→H2 i=H i:=fun i hi AL=>(EX i (by omega) AL).trans (HR i hi AL)
 have hlL:∀k,VX env 24 L k=k (.i .i64 (w.map (AV.i .i64)).length):=fun k=>Ak hL2 rfl rfl
 have Xn:=hL2
 have tO:=LA
 have hlx:=ME
 try simp-dsimp-implicitDefEqProofs(disch:=omega)only[go_sem,A8]
 apply hN;refine AW.cond rfl ?_ ?_<;>intro h2
 ·try simp only[cn]at h2
  refine AW.seq fun N5 DW=>?_;refine sQ fun N hN=>?_;simp-dsimp-implicitDefEqProofs(disch:=omega)only[go_sem,A8,↓VY,hlL,List.length_map]
  refine C9.mk' (fun h3=>?_) (fun h3=>?_)
  ·try simp only[cn]at h3
   try simp-dsimp-implicitDefEqProofs(disch:=omega)only[go_sem,A8]
   refine(AK LA 2 (by omega) _).AG ?_;rintro m3 H3 r3 S9 ⟨⟨x3,rfl,Wc⟩,KS,O3⟩;have hL3:=hL2.AD (H':=H3) (fun z z1 z2=>O3 z (by omega) (by omega));have LJ:∀i,i<nx→i≠AT→H3 i=H i:=fun i hi AL=>(O3 i (by omega) AL).trans (ME i hi AL)
   have Xn:=hL3;have tO:=KS;have hlx:=LJ;try simp-dsimp-implicitDefEqProofs(disch:=omega)only[go_sem,A8]
   apply hN;refine AW.cond rfl ?_ ?_<;>intro h4
   ·(try simp only[cn]at h4);obtain⟨q,rfl,hq,Cd⟩:=hL3.pos (by rw[List.length_map];first|omega|(simp at h3;omega));have OI:0<os.length:=by first|omega|(simp at h3;omega)
    refine sQ fun N hN=>?_;simp-dsimp-implicitDefEqProofs(disch:=omega)only[go_sem,A8,A6,ints];refine(CD (KS.AD (A0 _ _ (by omega))) [os.getD 0 0,-1] 2 (A1 _ _ _) rfl (by omega) (by omega) _ (by omega) (by omega) (by omega)).AG ?_
    rintro m4 H4 r4 sS ⟨⟨x4,rfl,hx4⟩,ZS,WW⟩;have hq4:H4 q=some (w.map (.i .i64)):=(WW q (by omega) (by omega)).trans ((A0 _ _ (by omega)).trans hq);have dM:∀i,i<nx→i≠AT→H4 i=H i:=fun i hi AL=>(WW i (by omega) AL).trans ((A0 _ _ (by omega)).trans (LJ i hi AL))
    (try simp-dsimp-implicitDefEqProofs(disch:=omega)only[go_sem,A8,hq4,List.length_map]);apply hN;refine sQ fun N hN=>?_;simp-dsimp-implicitDefEqProofs(disch:=omega)only[go_sem,A8];apply hN;apply AW.ret;simp-dsimp-implicitDefEqProofs(disch:=omega)only[go_sem];refine⟨_,fun _ _ h=>h,_,.h q 0 _ _ ((w.set 0 x4).map (.i .i64)) (A1 _ _ _) (KR (by omega)) (by rw[Q8 (by simp;omega)];simp) (by simp) (fun k x y h1 h2=>?_),⟨w.set 0 x4,by simp[ints],by rw[List.length_set];omega⟩,ZS.AD (A0 _ _ (by omega)),fun i hi AL=>(A0 _ _ (by omega)).trans (dM i hi AL)⟩
    rw[Nat.zero_add,Q8 (by simp;omega),←List.map_set,h2]at h1;cases h1;exact .refl _
   try simp only[cn]at h4
   apply AW.skip;apply DW;refine sQ fun N hN=>?_;simp-dsimp-implicitDefEqProofs(disch:=(first|omega|((repeat refine LC.AU (by omega) ?_);assumption))) only[go_sem,A8,Xn.one,Xn.len,CC (a:=nx+1) (b:=m) (L:=L) (cs:=w.map (.i .i64)),List.length_map]
   apply hN;apply AW.ret;simp-dsimp-implicitDefEqProofs(disch:=omega)only[go_sem];have dH:=hL.bd;refine⟨_,fun _ _ h=>h,_,(LC.mk (a:=nx+1) (b:=m3+100) (cs:=(w++[0]).map (.i .i64)) (by simp(disch:=omega)only[A1,A0,List.map_append];rfl) (by simp) (by omega) (by omega)).Ur (Nat.le_succ nx),⟨w++[0],rfl,by simp;omega⟩,tO.AD (by simp(disch:=omega)only[A0,AP]),fun i hi AL=>by simp(disch:=omega)only[A0,AP];exact hlx i hi AL⟩
  try simp only[cn]at h3
  try simp-dsimp-implicitDefEqProofs(disch:=omega)only[go_sem,A8]
  apply hN;refine AW.C8 rfl ?_;apply AW.skip;apply DW;refine sQ fun N hN=>?_;simp-dsimp-implicitDefEqProofs(disch:=(first|omega|((repeat refine LC.AU (by omega) ?_);assumption))) only[go_sem,A8,Xn.one,Xn.len,CC (a:=nx+1) (b:=m) (L:=L) (cs:=w.map (.i .i64)),List.length_map]
  apply hN;apply AW.ret;simp-dsimp-implicitDefEqProofs(disch:=omega)only[go_sem];have dH:=hL.bd;refine⟨_,fun _ _ h=>h,_,(LC.mk (a:=nx+1) (b:=m2+100) (cs:=(w++[0]).map (.i .i64)) (by simp(disch:=omega)only[A1,A0,List.map_append];rfl) (by simp) (by omega) (by omega)).Ur (Nat.le_succ nx),⟨w++[0],rfl,by simp;omega⟩,tO.AD (by simp(disch:=omega)only[A0,AP]),fun i hi AL=>by simp(disch:=omega)only[A0,AP];exact hlx i hi AL⟩
 try simp only[cn]at h2
 apply AW.skip;apply CG;refine sQ fun N hN=>?_;simp-dsimp-implicitDefEqProofs(disch:=omega)only[go_sem,A8];apply hN;apply AW.ret;simp-dsimp-implicitDefEqProofs(disch:=omega)only[go_sem];exact⟨_,fun _ _ h=>h,_,hL2.Ur (Nat.le_succ nx),⟨w,rfl,by omega⟩,LA,ME⟩
theorem EH{bs:List Int}{AT:Nat}{H:HP}(hg:AY bs AT H)(os:List Int)(X:List (List Int))(Y:List (List (List Int)))(hd:QI os X Y)(nx:Nat)(J6:AT<nx):AC Tryz.prog 41 nx H [.q AT 0,A8 os X Y] (sK bs AT nx H Xm):=AC.zs J6 (QJ hg os X Y hd nx J6)
theorem Fz.tp{H H2:HP}{x y Y:AV}(h:Fz H H2 y Y):Fz H H2 (.t [x,y]) (.t [x,Y]):= .t _ _ rfl fun k a b ha hb=>by
  match k,ha,hb with
  |0,ha,hb=>cases ha;cases hb;exact .refl _
  |1,ha,hb=>cases ha;cases hb;exact h
def Xo(r:AV):Prop:=∃os X Y W,r= .t [A8 os X Y,rows W]∧QI os X Y∧B6 W∧W.length≤1000
set_option maxHeartbeats 2000000 in
theorem KT(bs:List Int)(hb:P2 bs)(cL:bs.length≤4096)(nx:Nat):AC Tryz.prog 14 nx BN [I0 bs] (fun nx' H' r=>∃r2,Fz H' (GH nx H') r r2∧Xo r2):=by
 refine AC.C2 A9 Tryz.func14 rfl (by kernel_rfl) Tryz.ntmps14 Tryz.results14 (fun C7 cX=>?_)
 refine sQ fun N hN=>?_;simp-dsimp-implicitDefEqProofs(disch:=omega)only[go_sem,A8];apply hN;refine sQ fun N hN=>?_;simp-dsimp-implicitDefEqProofs(disch:=omega)only[go_sem,A8];refine AC.AG (AC.frame (VP bs hb cL _)) ?_
 rintro m1 H1 r1 MW ⟨H0,⟨AT,a1,s1,rfl,Xp,A3O,ho1,Te⟩,CK,F4⟩
 have JZ:AY bs AT H1:=⟨a1,s1,ho1,(F4 AT Xp).trans Te⟩
 have WU:H1 nx=some [.nl,.nl,.nl]:=by rw[CK nx (by omega)];simp(disch:=omega)only[A0,A1]
 try simp-dsimp-implicitDefEqProofs(disch:=omega)only[go_sem,A8]
 apply hN;refine sQ fun N hN=>?_;simp-dsimp-implicitDefEqProofs(disch:=omega)only[go_sem,A8];refine(MT JZ 48 _ (by omega)).AG ?_
 rintro m2 H2 r2 TI ⟨⟨os,X,Y,rfl,hd⟩,LA,EX⟩
 have Mt:=(EX nx (by omega) (by omega)).trans WU
 try simp-dsimp-implicitDefEqProofs(disch:=omega)only[go_sem,A8]
 apply hN;refine AW.seq fun N1 BC=>?_;refine AW.BD (fun G3 D3=>?_);dsimp only at D3
 have ha3:G3 nx=some [.nl,.nl,.nl]:=by rw[←D3];simp(disch:=omega)only[A0];exact Mt
 have A3J:AY bs AT G3:=LA.AD (by rw[←D3];simp(disch:=omega)only[A0])
 have O6:G3 (m1+2)=some [ints os,rows X,A4 Y]:=by rw[←D3];simp(disch:=omega)only[A1]
 clear D3
 simp-dsimp-implicitDefEqProofs(disch:=omega)only[go_sem];refine sQ fun N hN=>?_;simp-dsimp-implicitDefEqProofs(disch:=omega)only[go_sem,A8];refine(AK A3J 15 (by omega) _).AG ?_
 rintro m3 H3 r3 S9 ⟨⟨x3,rfl,Wc⟩,KS,O3⟩
 have ha4:=(O3 nx (by omega) (by omega)).trans ha3
 have Lp:=(O3 (m1+2) (by omega) (by omega)).trans O6
 try simp-dsimp-implicitDefEqProofs(disch:=omega)only[go_sem,A8]
 apply hN;refine AW.cond rfl ?_ ?_<;>intro h1
 ·try simp only[cn]at h1
  apply rQ;simp-dsimp-implicitDefEqProofs(disch:=omega)only[go_sem,A8];refine(MT KS 243 _ (by omega)).AG ?_;rintro m4 H4 r4 sS ⟨⟨mI,X4,Y4,rfl,hd4⟩,ZS,WW⟩;have ha5:=(WW nx (by omega) (by omega)).trans ha4;have P1:=(WW (m1+2) (by omega) (by omega)).trans Lp;try simp-dsimp-implicitDefEqProofs(disch:=omega)only[go_sem,A8,P1]
  apply BC;first
  |refine AW.B5 5 (m1+2) _ rfl (A1 _ _ _) ?_
  |refine AW.B5 5 (m1+2) _ rfl Lp ?_
  refine AW.BD (fun G5 DD=>?_);dsimp only at DD;obtain⟨gC,O8⟩:G5 nx=some [.nl,.nl,.nl]∧AY bs AT G5:=by
   first
   |exact⟨by rw[←DD];simp(disch:=omega)only[A0];exact ha5,ZS.AD (by rw[←DD];simp(disch:=omega)only[A0])⟩
   |exact⟨by rw[←DD];simp(disch:=omega)only[A0];exact ha4,KS.AD (by rw[←DD];simp(disch:=omega)only[A0])⟩
  clear DD;simp-dsimp-implicitDefEqProofs(disch:=omega)only[go_sem];refine sQ fun N hN=>?_;simp-dsimp-implicitDefEqProofs(disch:=omega)only[go_sem,A8];apply hN;refine AW.BD (fun G6 P3=>?_);dsimp only at P3
  have Lq:G6 nx=some [.nl,.nl,.nl]:=by rw[←P3];simp(disch:=omega)only[A0];exact gC
  have Lr:AY bs AT G6:=O8.AD (by rw[←P3];simp(disch:=omega)only[A0]);first
  |have tP:G6 m4=some (([]:List (List Int)).map ints):=by rw[←P3];simp(disch:=omega)only[A1];rfl
  |have tP:G6 m3=some (([]:List (List Int)).map ints):=by rw[←P3];simp(disch:=omega)only[A1];rfl
  clear P3;simp-dsimp-implicitDefEqProofs(disch:=omega)only[go_sem];refine sQ fun N hN=>?_;simp-dsimp-implicitDefEqProofs(disch:=omega)only[go_sem,A8];refine(AK Lr 3 (by omega) _).AG ?_
  rintro m5 H5 r5 uI ⟨⟨x5,rfl,We⟩,fR,J7⟩;obtain⟨kk,aM⟩:∃kk:Nat,(1:Int)+x5=kk:=⟨((1:Int)+x5).toNat,by omega⟩;try simp-dsimp-implicitDefEqProofs(disch:=omega)only[go_sem,aM]
  apply hN;refine AW.seq fun N2 BM=>?_;refine sQ fun N hN=>?_;simp-dsimp-implicitDefEqProofs(disch:=omega)only[go_sem,A8];refine(AK fR 20 (by omega) _).AG ?_
  rintro m6 H6 r6 Zq ⟨⟨x6,rfl,hx6⟩,fS,VR⟩;have hkx:∀z,z<m5→z≠AT→H6 z=H5 z:=fun z z1 z2=>VR z (by omega) z2
  have tO:=fS;have ZU:=((VR nx (by omega) (by omega)).trans (J7 nx (by omega) (by omega))).trans Lq;have ZV:=((VR (m4) (by omega) (by omega)).trans (J7 (m4) (by omega) (by omega))).trans tP;try simp-dsimp-implicitDefEqProofs(disch:=omega)only[go_sem,A8]
  apply hN;refine AW.cond rfl ?_ ?_<;>intro h2
  ·try simp only[cn]at h2
   apply rQ;simp-dsimp-implicitDefEqProofs(disch:=omega)only[go_sem,A8];refine(CD (fS.AD (A0 _ _ (by omega))) [0,4,5] 3 (A1 _ _ _) rfl (by omega) (by omega) _ (by omega) (by omega) (by omega)).AG ?_;rintro m7 H7 r7 Nl ⟨⟨x7,rfl,Cl⟩,WH,cS⟩;have NW:0≤x7∧x7≤5:=by simp at Cl;omega
   have tO:=WH;replace ZU:=(cS nx (by omega) (by omega)).trans ((A0 _ _ (by omega)).trans ZU);replace ZV:=(cS (m4) (by omega) (by omega)).trans ((A0 _ _ (by omega)).trans ZV);obtain⟨kk,aM⟩:∃kk:Nat,x7=kk:=⟨x7.toNat,by omega⟩;try simp-dsimp-implicitDefEqProofs(disch:=omega)only[go_sem,aM]
   apply BM;refine AW.seq fun N3 BQ=>?_;apply AW.block;refine AW.AF (α:=Nat×HP×AV×List (List Int)) (fun x=>sl 39 [(2,.q nx 0),(4,.q AT 0),(5,.p 0 [ints mI,rows X4,A4 Y4]),(6,x.2.2.1),(7,.i .i64 x.1)]) (fun x=>x.2.1) (fun x m=>(x.1≤5∧m4+1≤m∧AT<m4∧nx<m4)∧LC x.2.1 (m4) m x.2.2.1 (x.2.2.2.map ints)∧(x.2.2.2.length+x.1≤5∧∀w∈x.2.2.2,w.length≤9)∧AY bs AT x.2.1∧x.2.1 nx=some [.nl,.nl,.nl]) (fun x=>x.1) ((kk,H7,.h (m4) 0 0,[])) ?_ ?_ (fun _ _ h=>h) ?_
   ·exact⟨⟨by first|omega|(dsimp only;omega),by first|omega|(dsimp only;omega),by first|omega|(dsimp only;omega),by first|omega|(dsimp only;omega)⟩,.mk ZV rfl (by first|omega|(dsimp only;omega)) (by first|omega|(dsimp only;omega)),⟨by simp;omega,by simp⟩,tO,ZU⟩
   ·simp(disch:=omega) [AO,AQ,sl,A8]
   skip
   rintro⟨k,G,L,W⟩ m ⟨⟨hk,hm,a9,Bw⟩,hL,⟨sC,hW⟩,JZ,WU⟩;simp-dsimp-implicitDefEqProofs(disch:=omega)only[go_sem];dsimp only at hk hm hL sC hW JZ WU ⊢;have NU:=hL.one;have KQ:=hL.len;have dH:=hL.bd;rw[List.length_map]at KQ;refine AW.seq fun N4 CG=>?_;refine sQ fun N hN=>?_;simp-dsimp-implicitDefEqProofs(disch:=omega)only[go_sem,A8];apply hN;refine AW.cond rfl ?_ ?_<;>intro h3
   ·(try simp only[cn]at h3);apply AW.skip;apply CG;refine AW.seq fun N5 DW=>?_;apply AW.block;apply rQ;simp-dsimp-implicitDefEqProofs(disch:=omega)only[go_sem,A8];refine(EH JZ mI X4 Y4 hd4 _ (by omega)).AG ?_
    rintro m8 H8 r8 uJ ⟨⟨y,rfl,hy⟩,uL,YB⟩;have hL8:=hL.AD (H':=H8) (fun z z1 z2=>YB z (by omega) (by omega));have Ls:=(YB nx (by omega) (by omega)).trans WU;try simp-dsimp-implicitDefEqProofs(disch:=(first|omega|((repeat refine LC.AU (by omega) ?_);assumption))) only[go_sem,NU,KQ,CC (a:=m4) (b:=m) (L:=L) (cs:=W.map ints),List.length_map]
    apply DW;refine AW.BD (fun G9 XT=>?_);dsimp only at XT;apply rQ;simp-dsimp-implicitDefEqProofs(disch:=omega)only[go_sem,A8];refine⟨(k-1,G9,.h (m+2+5) 0 (W.length+1),W++[y]),?_,fun _ _ h=>h,?_,?_⟩
    ·simp(disch:=omega) [AO,AQ,sl,AJ,A8,aM]<;>omega
    ·have IZ:LC G9 (m4) (m8+3) (.h (m+2+5) 0 (W.length+1)) ((W++[y]).map ints):=LC.mk (by rw[←XT,List.map_append];simp(disch:=omega)only[A0,A1];rfl) (by simp) (by omega) (by omega);have O8:AY bs AT G9:=uL.AD (by rw[←XT];simp(disch:=omega)only[A0,AP]);have gC:G9 nx=some [.nl,.nl,.nl]:=by rw[←XT];simp(disch:=omega)only[A0,AP];exact Ls
     have lO:(W++[y]).length+(k-1)≤5∧∀w∈W++[y],w.length≤9:=⟨by simp;omega,HZ hW hy⟩;first|exact⟨⟨by first|omega|(dsimp only;omega),by first|omega|(dsimp only;omega),a9,Bw⟩,IZ,lO,O8,gC⟩|exact⟨⟨by first|omega|(dsimp only;omega),by first|omega|(dsimp only;omega)⟩,IZ,lO,O8,gC⟩
    first|omega|(simp only;omega)
   try simp only[cn]at h3
   apply AW.exit;apply BQ;refine sQ fun N hN=>?_;simp-dsimp-implicitDefEqProofs(disch:=omega)only[go_sem,A8,WU];apply hN;apply AW.ret;simp-dsimp-implicitDefEqProofs(disch:=omega)only[go_sem];exact⟨_,fun _ _ h=>h,_,Fz.tp ((hL.AD (H':=AU G nx (some [ints mI,rows X4,A4 Y4])) (fun z h1 h2=>A0 _ _ (by omega))).Us (by omega)),mI,X4,Y4,W,rfl,hd4,⟨by omega,fun w hw=>by have:=hW w hw;omega⟩,by omega⟩
  try simp only[cn]at h2
  apply AW.skip;apply BM;refine AW.seq fun N6 HC=>?_;apply AW.block;refine AW.AF (α:=Nat×HP×AV×List (List Int)) (fun x=>sl 39 [(2,.q nx 0),(4,.q AT 0),(5,.p 0 [ints mI,rows X4,A4 Y4]),(6,x.2.2.1),(7,.i .i64 x.1)]) (fun x=>x.2.1) (fun x m=>(x.1≤5∧m4+1≤m∧AT<m4∧nx<m4)∧LC x.2.1 (m4) m x.2.2.1 (x.2.2.2.map ints)∧(x.2.2.2.length+x.1≤5∧∀w∈x.2.2.2,w.length≤9)∧AY bs AT x.2.1∧x.2.1 nx=some [.nl,.nl,.nl]) (fun x=>x.1) ((kk,H6,.h (m4) 0 0,[])) ?_ ?_ (fun _ _ h=>h) ?_
  ·exact⟨⟨by first|omega|(dsimp only;omega),by first|omega|(dsimp only;omega),by first|omega|(dsimp only;omega),by first|omega|(dsimp only;omega)⟩,.mk ZV rfl (by first|omega|(dsimp only;omega)) (by first|omega|(dsimp only;omega)),⟨by simp;omega,by simp⟩,tO,ZU⟩
  ·simp(disch:=omega) [AO,AQ,sl,A8]
  skip
  rintro⟨k,G,L,W⟩ m ⟨⟨hk,hm,a9,Bw⟩,hL,⟨sC,hW⟩,JZ,WU⟩;simp-dsimp-implicitDefEqProofs(disch:=omega)only[go_sem];dsimp only at hk hm hL sC hW JZ WU ⊢;have NU:=hL.one;have KQ:=hL.len;have dH:=hL.bd;rw[List.length_map]at KQ;refine AW.seq fun N7 JO=>?_;refine sQ fun N hN=>?_;simp-dsimp-implicitDefEqProofs(disch:=omega)only[go_sem,A8];apply hN;refine AW.cond rfl ?_ ?_<;>intro h4
  ·try simp only[cn]at h4
   apply AW.skip;apply JO;refine AW.seq fun N8 JJ=>?_;apply AW.block;apply rQ;simp-dsimp-implicitDefEqProofs(disch:=omega)only[go_sem,A8];refine(EH JZ mI X4 Y4 hd4 _ (by omega)).AG ?_
   rintro m8 H8 r8 uJ ⟨⟨y,rfl,hy⟩,uL,YB⟩;have hL8:=hL.AD (H':=H8) (fun z z1 z2=>YB z (by omega) (by omega));have Ls:=(YB nx (by omega) (by omega)).trans WU;try simp-dsimp-implicitDefEqProofs(disch:=(first|omega|((repeat refine LC.AU (by omega) ?_);assumption))) only[go_sem,NU,KQ,CC (a:=m4) (b:=m) (L:=L) (cs:=W.map ints),List.length_map]
   apply JJ;refine AW.BD (fun G9 XT=>?_);dsimp only at XT;apply rQ;simp-dsimp-implicitDefEqProofs(disch:=omega)only[go_sem,A8];refine⟨(k-1,G9,.h (m+2+5) 0 (W.length+1),W++[y]),?_,fun _ _ h=>h,?_,?_⟩
   ·simp(disch:=omega) [AO,AQ,sl,AJ,A8,aM]<;>omega
   ·have IZ:LC G9 (m4) (m8+3) (.h (m+2+5) 0 (W.length+1)) ((W++[y]).map ints):=LC.mk (by rw[←XT,List.map_append];simp(disch:=omega)only[A0,A1];rfl) (by simp) (by omega) (by omega);have O8:AY bs AT G9:=uL.AD (by rw[←XT];simp(disch:=omega)only[A0,AP]);have gC:G9 nx=some [.nl,.nl,.nl]:=by rw[←XT];simp(disch:=omega)only[A0,AP];exact Ls
    have lO:(W++[y]).length+(k-1)≤5∧∀w∈W++[y],w.length≤9:=⟨by simp;omega,HZ hW hy⟩;first|exact⟨⟨by first|omega|(dsimp only;omega),by first|omega|(dsimp only;omega),a9,Bw⟩,IZ,lO,O8,gC⟩|exact⟨⟨by first|omega|(dsimp only;omega),by first|omega|(dsimp only;omega)⟩,IZ,lO,O8,gC⟩
   first|omega|(simp only;omega)
  try simp only[cn]at h4
  apply AW.exit;apply HC;refine sQ fun N hN=>?_;simp-dsimp-implicitDefEqProofs(disch:=omega)only[go_sem,A8,WU];apply hN;apply AW.ret;simp-dsimp-implicitDefEqProofs(disch:=omega)only[go_sem];exact⟨_,fun _ _ h=>h,_,Fz.tp ((hL.AD (H':=AU G nx (some [ints mI,rows X4,A4 Y4])) (fun z h1 h2=>A0 _ _ (by omega))).Us (by omega)),mI,X4,Y4,W,rfl,hd4,⟨by omega,fun w hw=>by have:=hW w hw;omega⟩,by omega⟩
 try simp only[cn]at h1
 apply AW.skip;apply BC;first
 |refine AW.B5 5 (m1+2) _ rfl (A1 _ _ _) ?_
 |refine AW.B5 5 (m1+2) _ rfl Lp ?_
 refine AW.BD (fun G5 DD=>?_);dsimp only at DD
 obtain⟨gC,O8⟩:G5 nx=some [.nl,.nl,.nl]∧AY bs AT G5:=by
  first
  |exact⟨by rw[←DD];simp(disch:=omega)only[A0];exact ha5,ZS.AD (by rw[←DD];simp(disch:=omega)only[A0])⟩
  |exact⟨by rw[←DD];simp(disch:=omega)only[A0];exact ha4,KS.AD (by rw[←DD];simp(disch:=omega)only[A0])⟩
 clear DD
 simp-dsimp-implicitDefEqProofs(disch:=omega)only[go_sem];refine sQ fun N hN=>?_;simp-dsimp-implicitDefEqProofs(disch:=omega)only[go_sem,A8];apply hN;refine AW.BD (fun G6 P3=>?_);dsimp only at P3
 have Lq:G6 nx=some [.nl,.nl,.nl]:=by rw[←P3];simp(disch:=omega)only[A0];exact gC
 have Lr:AY bs AT G6:=O8.AD (by rw[←P3];simp(disch:=omega)only[A0])
 first
 |have tP:G6 m4=some (([]:List (List Int)).map ints):=by rw[←P3];simp(disch:=omega)only[A1];rfl
 |have tP:G6 m3=some (([]:List (List Int)).map ints):=by rw[←P3];simp(disch:=omega)only[A1];rfl
 clear P3
 simp-dsimp-implicitDefEqProofs(disch:=omega)only[go_sem];refine sQ fun N hN=>?_;simp-dsimp-implicitDefEqProofs(disch:=omega)only[go_sem,A8];refine(AK Lr 3 (by omega) _).AG ?_
 rintro m5 H5 r5 uI ⟨⟨x5,rfl,We⟩,fR,J7⟩
 obtain⟨kk,aM⟩:∃kk:Nat,(1:Int)+x5=kk:=⟨((1:Int)+x5).toNat,by omega⟩
 try simp-dsimp-implicitDefEqProofs(disch:=omega)only[go_sem,aM]
 apply hN;refine AW.seq fun N9 M6=>?_;refine sQ fun N hN=>?_;simp-dsimp-implicitDefEqProofs(disch:=omega)only[go_sem,A8];refine(AK fR 20 (by omega) _).AG ?_
 rintro m6 H6 r6 Zq ⟨⟨x6,rfl,hx6⟩,fS,VR⟩
 have hkx:∀z,z<m5→z≠AT→H6 z=H5 z:=fun z z1 z2=>VR z (by omega) z2
 have tO:=fS
 have ZU:=((VR nx (by omega) (by omega)).trans (J7 nx (by omega) (by omega))).trans Lq
 have ZV:=((VR (m3) (by omega) (by omega)).trans (J7 (m3) (by omega) (by omega))).trans tP
 try simp-dsimp-implicitDefEqProofs(disch:=omega)only[go_sem,A8]
 apply hN;refine AW.cond rfl ?_ ?_<;>intro h5
 ·try simp only[cn]at h5
  apply rQ;simp-dsimp-implicitDefEqProofs(disch:=omega)only[go_sem,A8];refine(CD (fS.AD (A0 _ _ (by omega))) [0,4,5] 3 (A1 _ _ _) rfl (by omega) (by omega) _ (by omega) (by omega) (by omega)).AG ?_;rintro m7 H7 r7 Nl ⟨⟨x7,rfl,Cl⟩,WH,cS⟩;have NW:0≤x7∧x7≤5:=by simp at Cl;omega
  have tO:=WH;replace ZU:=(cS nx (by omega) (by omega)).trans ((A0 _ _ (by omega)).trans ZU);replace ZV:=(cS (m3) (by omega) (by omega)).trans ((A0 _ _ (by omega)).trans ZV);obtain⟨kk,aM⟩:∃kk:Nat,x7=kk:=⟨x7.toNat,by omega⟩;try simp-dsimp-implicitDefEqProofs(disch:=omega)only[go_sem,aM]
  apply M6;refine AW.seq fun lF FW=>?_;apply AW.block;refine AW.AF (α:=Nat×HP×AV×List (List Int)) (fun x=>sl 39 [(2,.q nx 0),(4,.q AT 0),(5,.p 0 [ints os,rows X,A4 Y]),(6,x.2.2.1),(7,.i .i64 x.1)]) (fun x=>x.2.1) (fun x m=>(x.1≤5∧m3+1≤m∧AT<m3∧nx<m3)∧LC x.2.1 (m3) m x.2.2.1 (x.2.2.2.map ints)∧(x.2.2.2.length+x.1≤5∧∀w∈x.2.2.2,w.length≤9)∧AY bs AT x.2.1∧x.2.1 nx=some [.nl,.nl,.nl]) (fun x=>x.1) ((kk,H7,.h (m3) 0 0,[])) ?_ ?_ (fun _ _ h=>h) ?_
  ·exact⟨⟨by first|omega|(dsimp only;omega),by first|omega|(dsimp only;omega),by first|omega|(dsimp only;omega),by first|omega|(dsimp only;omega)⟩,.mk ZV rfl (by first|omega|(dsimp only;omega)) (by first|omega|(dsimp only;omega)),⟨by simp;omega,by simp⟩,tO,ZU⟩
  ·simp(disch:=omega) [AO,AQ,sl,A8]
  skip
  rintro⟨k,G,L,W⟩ m ⟨⟨hk,hm,a9,Bw⟩,hL,⟨sC,hW⟩,JZ,WU⟩;simp-dsimp-implicitDefEqProofs(disch:=omega)only[go_sem];dsimp only at hk hm hL sC hW JZ WU ⊢;have NU:=hL.one;have KQ:=hL.len;have dH:=hL.bd;rw[List.length_map]at KQ;refine AW.seq fun p5 HI=>?_;refine sQ fun N hN=>?_;simp-dsimp-implicitDefEqProofs(disch:=omega)only[go_sem,A8];apply hN;refine AW.cond rfl ?_ ?_<;>intro h6
  ·try simp only[cn]at h6
   apply AW.skip;apply HI;refine AW.seq fun wX KG=>?_;apply AW.block;apply rQ;simp-dsimp-implicitDefEqProofs(disch:=omega)only[go_sem,A8];refine(EH JZ os X Y hd _ (by omega)).AG ?_
   rintro m8 H8 r8 uJ ⟨⟨y,rfl,hy⟩,uL,YB⟩;have hL8:=hL.AD (H':=H8) (fun z z1 z2=>YB z (by omega) (by omega));have Ls:=(YB nx (by omega) (by omega)).trans WU;try simp-dsimp-implicitDefEqProofs(disch:=(first|omega|((repeat refine LC.AU (by omega) ?_);assumption))) only[go_sem,NU,KQ,CC (a:=m3) (b:=m) (L:=L) (cs:=W.map ints),List.length_map]
   apply KG;refine AW.BD (fun G9 XT=>?_);dsimp only at XT;apply rQ;simp-dsimp-implicitDefEqProofs(disch:=omega)only[go_sem,A8];refine⟨(k-1,G9,.h (m+2+5) 0 (W.length+1),W++[y]),?_,fun _ _ h=>h,?_,?_⟩
   ·simp(disch:=omega) [AO,AQ,sl,AJ,A8,aM]<;>omega
   ·have IZ:LC G9 (m3) (m8+3) (.h (m+2+5) 0 (W.length+1)) ((W++[y]).map ints):=LC.mk (by rw[←XT,List.map_append];simp(disch:=omega)only[A0,A1];rfl) (by simp) (by omega) (by omega);have O8:AY bs AT G9:=uL.AD (by rw[←XT];simp(disch:=omega)only[A0,AP]);have gC:G9 nx=some [.nl,.nl,.nl]:=by rw[←XT];simp(disch:=omega)only[A0,AP];exact Ls
    have lO:(W++[y]).length+(k-1)≤5∧∀w∈W++[y],w.length≤9:=⟨by simp;omega,HZ hW hy⟩;first|exact⟨⟨by first|omega|(dsimp only;omega),by first|omega|(dsimp only;omega),a9,Bw⟩,IZ,lO,O8,gC⟩|exact⟨⟨by first|omega|(dsimp only;omega),by first|omega|(dsimp only;omega)⟩,IZ,lO,O8,gC⟩
   first|omega|(simp only;omega)
  try simp only[cn]at h6
  apply AW.exit;apply FW;refine sQ fun N hN=>?_;simp-dsimp-implicitDefEqProofs(disch:=omega)only[go_sem,A8,WU];apply hN;apply AW.ret;simp-dsimp-implicitDefEqProofs(disch:=omega)only[go_sem];exact⟨_,fun _ _ h=>h,_,Fz.tp ((hL.AD (H':=AU G nx (some [ints os,rows X,A4 Y])) (fun z h1 h2=>A0 _ _ (by omega))).Us (by omega)),os,X,Y,W,rfl,hd,⟨by omega,fun w hw=>by have:=hW w hw;omega⟩,by omega⟩
 try simp only[cn]at h5
 apply AW.skip;apply M6;refine AW.seq fun Hq NI=>?_;apply AW.block;refine AW.AF (α:=Nat×HP×AV×List (List Int)) (fun x=>sl 39 [(2,.q nx 0),(4,.q AT 0),(5,.p 0 [ints os,rows X,A4 Y]),(6,x.2.2.1),(7,.i .i64 x.1)]) (fun x=>x.2.1) (fun x m=>(x.1≤5∧m3+1≤m∧AT<m3∧nx<m3)∧LC x.2.1 (m3) m x.2.2.1 (x.2.2.2.map ints)∧(x.2.2.2.length+x.1≤5∧∀w∈x.2.2.2,w.length≤9)∧AY bs AT x.2.1∧x.2.1 nx=some [.nl,.nl,.nl]) (fun x=>x.1) ((kk,H6,.h (m3) 0 0,[])) ?_ ?_ (fun _ _ h=>h) ?_
 ·exact⟨⟨by first|omega|(dsimp only;omega),by first|omega|(dsimp only;omega),by first|omega|(dsimp only;omega),by first|omega|(dsimp only;omega)⟩,.mk ZV rfl (by first|omega|(dsimp only;omega)) (by first|omega|(dsimp only;omega)),⟨by simp;omega,by simp⟩,tO,ZU⟩
 ·simp(disch:=omega) [AO,AQ,sl,A8]
 skip
 rintro⟨k,G,L,W⟩ m ⟨⟨hk,hm,a9,Bw⟩,hL,⟨sC,hW⟩,JZ,WU⟩
 simp-dsimp-implicitDefEqProofs(disch:=omega)only[go_sem];dsimp only at hk hm hL sC hW JZ WU ⊢
 have NU:=hL.one
 have KQ:=hL.len
 have dH:=hL.bd
 rw[List.length_map]at KQ
 refine AW.seq fun Mr R1=>?_;refine sQ fun N hN=>?_;simp-dsimp-implicitDefEqProofs(disch:=omega)only[go_sem,A8];apply hN;refine AW.cond rfl ?_ ?_<;>intro h7
 ·try simp only[cn]at h7
  apply AW.skip;apply R1;refine AW.seq fun Sb UH=>?_;apply AW.block;apply rQ;simp-dsimp-implicitDefEqProofs(disch:=omega)only[go_sem,A8];refine(EH JZ os X Y hd _ (by omega)).AG ?_
  rintro m8 H8 r8 uJ ⟨⟨y,rfl,hy⟩,uL,YB⟩;have hL8:=hL.AD (H':=H8) (fun z z1 z2=>YB z (by omega) (by omega));have Ls:=(YB nx (by omega) (by omega)).trans WU;try simp-dsimp-implicitDefEqProofs(disch:=(first|omega|((repeat refine LC.AU (by omega) ?_);assumption))) only[go_sem,NU,KQ,CC (a:=m3) (b:=m) (L:=L) (cs:=W.map ints),List.length_map]
  apply UH;refine AW.BD (fun G9 XT=>?_);dsimp only at XT;apply rQ;simp-dsimp-implicitDefEqProofs(disch:=omega)only[go_sem,A8];refine⟨(k-1,G9,.h (m+2+5) 0 (W.length+1),W++[y]),?_,fun _ _ h=>h,?_,?_⟩
  ·simp(disch:=omega) [AO,AQ,sl,AJ,A8,aM]<;>omega
  ·have IZ:LC G9 (m3) (m8+3) (.h (m+2+5) 0 (W.length+1)) ((W++[y]).map ints):=LC.mk (by rw[←XT,List.map_append];simp(disch:=omega)only[A0,A1];rfl) (by simp) (by omega) (by omega);have O8:AY bs AT G9:=uL.AD (by rw[←XT];simp(disch:=omega)only[A0,AP]);have gC:G9 nx=some [.nl,.nl,.nl]:=by rw[←XT];simp(disch:=omega)only[A0,AP];exact Ls
   have lO:(W++[y]).length+(k-1)≤5∧∀w∈W++[y],w.length≤9:=⟨by simp;omega,HZ hW hy⟩;first|exact⟨⟨by first|omega|(dsimp only;omega),by first|omega|(dsimp only;omega),a9,Bw⟩,IZ,lO,O8,gC⟩|exact⟨⟨by first|omega|(dsimp only;omega),by first|omega|(dsimp only;omega)⟩,IZ,lO,O8,gC⟩
  first|omega|(simp only;omega)
 try simp only[cn]at h7
 apply AW.exit;apply NI;refine sQ fun N hN=>?_;simp-dsimp-implicitDefEqProofs(disch:=omega)only[go_sem,A8,WU];apply hN;apply AW.ret;simp-dsimp-implicitDefEqProofs(disch:=omega)only[go_sem];exact⟨_,fun _ _ h=>h,_,Fz.tp ((hL.AD (H':=AU G nx (some [ints os,rows X,A4 Y])) (fun z h1 h2=>A0 _ _ (by omega))).Us (by omega)),os,X,Y,W,rfl,hd,⟨by omega,fun w hw=>by have:=hW w hw;omega⟩,by omega⟩
end Go.Proofs.YtghmeeifjeafmaaGreat
