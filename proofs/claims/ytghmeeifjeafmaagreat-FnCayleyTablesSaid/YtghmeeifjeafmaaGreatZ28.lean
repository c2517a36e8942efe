import Derived.Test.YtghmeeifjeafmaaGreatZ22
import Derived.Test.YtghmeeifjeafmaaGreatZ27
set_option linter.unusedVariables false
set_option linter.unusedSimpArgs false
namespace Go.Proofs.YtghmeeifjeafmaaGreat
theorem RI{i o n:Nat}:(∀z∈ [AV.h i o n],one z=true)=True:=GW rfl
def fG(n j:Nat):List Int:=vec n (fun k=>if k=j then 1 else 0)
theorem NB(n j:Nat):(fG n j).length=n:=by simp[fG,vec]
theorem VB(n j:Nat)(hn:n≤1048576)(hj:j<n)(nx:Nat)(H:HP):AC Tryz.prog 149 nx H [.i .i64 n,.i .i64 j] (fun nx' H' r=>mT nx nx' H H' r n (fun k=>if k=j then 1 else 0)):=by
 refine AC.C2 A9 Tryz.func149 rfl (by kernel_rfl) Tryz.ntmps149 Tryz.results149 (fun C7 cX=>?_)
 refine sQ fun N hN=>?_;simp-dsimp-implicitDefEqProofs(disch:=omega)only[go_sem];apply hN;refine sQ fun N hN=>?_;simp-dsimp-implicitDefEqProofs(disch:=omega)only[go_sem];apply hN;refine sQ fun N hN=>?_;simp-dsimp-implicitDefEqProofs(disch:=omega)only[go_sem];apply hN;refine sQ fun N hN=>?_;simp-dsimp-implicitDefEqProofs(disch:=omega)only[go_sem];apply hN;apply AW.ret;simp-dsimp-implicitDefEqProofs(disch:=omega)only[go_sem];refine⟨_,?_,nx+1+1,rfl,by omega,by omega,rfl⟩
 rw[CA,TA hj,show AX (fun _=>(0:Int)) j 1=fun k=>if k=j then 1 else 0 from rfl]
 intro i c hi
 have BW:H i=some c→i<nx:=fun h=>by apply Classical.byContradiction;intro hn;rw[C7 i (by omega)]at h;cases h
 simp only[AU]at hi ⊢
 split at hi
 ·rename_i e;subst e;cases hi;repeat (first|rw[if_pos rfl]|rw[if_neg (by omega)])
 have:=BW hi;repeat rw[if_neg (by omega)]
 exact hi
theorem IJ(n j:Nat)(hn:n≤1048576)(hj:j<n):W9 Tryz.prog 149 [.i .i64 n,.i .i64 j] (ints (fG n j)):=mT.Yr (fun nx=>VB n j hn hj nx BN)
def L2(n:Nat):List (List Int):=List.replicate n (List.replicate n 0)
def lY(n i:Nat):List (List Int):=(List.range (n-(i+1))).map fun j=>fG n (i+1+j)
def HY(n:Nat):List (List (List Int)):=(List.range n).map (lY n)
theorem rW{n k:Nat}(h:k<n):(L2 n).take (k+1)=(L2 n).take k++[List.replicate n 0]:=by
  rw[List.take_succ_eq_append_getElem (by simpa[L2]using h)];simp[L2]
theorem rX{n i j:Nat}(h:i+1+j<n):((lY n i).map ints).take (j+1)=((lY n i).map ints).take j++[ints (fG n (i+1+j))]:=by
  rw[List.take_succ_eq_append_getElem (by simp[lY];omega)];simp[lY]
theorem rY{n k:Nat}(h:k<n):(HY n).take (k+1)=(HY n).take k++[lY n k]:=by
  rw[List.take_succ_eq_append_getElem (by simpa[HY]using h)];simp[HY]
theorem Q6(n i:Nat):(lY n i).length=n-(i+1):=by simp[lY]
theorem TS(n:Nat):(HY n).length=n:=by simp[HY]
theorem TT(n:Nat):(L2 n).length=n:=by simp[L2]
theorem A1X(n:Nat):List.replicate n (AV.i .i64 0)=(List.replicate n (0:Int)).map (.i .i64):=by simp
theorem Cb(a:List Int)(ha:a.length≤1099511627776):W9 Tryz.prog 104 [ints a] (ints a):=by
  have:=mT.Yr (fun nx=>CB a ha nx BN);rwa [←YO]at this
set_option maxHeartbeats 4000000 in theorem FQ (os:List Int) (hn:os.length≤1000):∀nx,AC Tryz.prog 118 nx BN [ints os] (fun nx' H' r=>∃r0 P B cp cb,r= .g [r0,P,B]∧OZ nx nx' H' r0 P B os (L2 os.length) (HY os.length) cp cb):=by
 intro nx
 refine AC.AM A9 Tryz.func118 rfl (by kernel_rfl) Tryz.ntmps118 Tryz.results118 (fun cX=>?_)
 refine sQ fun N hN=>?_;simp-dsimp-implicitDefEqProofs(disch:=omega)only[go_sem,ints,dG];apply hN;refine sQ fun N hN=>?_;simp-dsimp-implicitDefEqProofs(disch:=omega)only[go_sem,ints,dG];apply hN;refine sQ fun N hN=>?_;simp-dsimp-implicitDefEqProofs(disch:=omega)only[go_sem,ints,dG];refine AC.own (Cb os (by omega)) (.cons (.refl _) .nil) ?_
 intro m0 H0 r0 cC U2 vZ L3
 obtain⟨u1,u2,u3⟩:=L3.1.slice
 try simp-dsimp-implicitDefEqProofs(disch:=omega)only[go_sem,u1,u2,u3]
 apply hN;refine AW.seq fun N1 BC=>?_;refine sQ fun N hN=>?_;simp-dsimp-implicitDefEqProofs(disch:=omega)only[go_sem,ints,dG];apply hN;apply AW.block;refine AW.BD (fun G0 CT=>?_);dsimp only at CT
 have QL:G0 (nx+7)=some [r0,.nl,.nl]:=by rw[←CT];simp(disch:=omega)only[A1]
 have JA:G0 nx=some [.nl,.nl,.nl]:=by rw[←CT,A0 _ _ (by omega),vZ _ (by omega)];simp(disch:=omega)only[A1]
 have hp0:DH (nx+9) m0 G0 r0 .nl .nl os [] []:=⟨cC,[],[],⟨L3.1.AD (fun i hi=>by have:=L3.2.2 i hi;rw[←CT,A0 _ _ (by omega)]),.nl,.nl⟩,by simpa using L3.2.1,fun i hi=>by have:=L3.2.2 i (by simpa using hi);omega⟩
 refine AW.AF (α:=Nat×HP×AV×AV×List AV×List AV) (fun x=>sl 46 [(2,.q nx 0),(3,.i .i64 os.length),(4,.q (nx+7) 0),(5,.i .i64 x.1)]) (fun x=>x.2.1) (fun x m=>(x.1≤os.length∧m0≤m)∧(x.2.1 (nx+7)=some [r0,x.2.2.1,x.2.2.2.1]∧x.2.1 nx=some [.nl,.nl,.nl])∧DH (nx+9) m x.2.1 r0 x.2.2.1 x.2.2.2.1 os ((L2 os.length).take x.1) ((HY os.length).take x.1)∧(LC x.2.1 (nx+9) m x.2.2.1 x.2.2.2.2.1∧x.2.2.2.2.1.length=x.1)∧(LC x.2.1 (nx+9) m x.2.2.2.1 x.2.2.2.2.2∧x.2.2.2.2.2.length=x.1)∧∀y∈x.2.2.2.2.2,WZ y=true) (fun x=>os.length-x.1) ((0,G0,.nl,.nl,[],[])) ?_ ?_ (fun _ _ h=>h) ?_
 ·exact⟨⟨by simp,by first|omega|(dsimp only;omega)⟩,⟨QL,JA⟩,by simpa using hp0.AD (fun _ _ _=>rfl) (by first|omega|(dsimp only;omega)),⟨.nil,rfl⟩,⟨.nil,rfl⟩,by simp⟩
 ·simp(disch:=omega) [AO,AQ,sl,AJ,ints]
 skip
 rintro⟨k,G,P,B,cp,cb⟩ m ⟨⟨hk,hm⟩,⟨hq,hx⟩,VC,⟨k5,TX⟩,⟨QP,lZ⟩,cD⟩
 simp-dsimp-implicitDefEqProofs(disch:=omega)only[go_sem];dsimp only at hk hm hq hx VC k5 TX QP lZ cD ⊢
 have hPb:=k5.bd
 have Cc:=k5.one
 have hPl:=k5.len
 have hBb:=QP.bd
 have mA:=QP.one
 have Ui:=QP.len
 refine AW.seq fun N2 BM=>?_;refine sQ fun N hN=>?_;simp-dsimp-implicitDefEqProofs(disch:=omega)only[go_sem,ints,dG];apply hN;refine AW.cond rfl ?_ ?_<;>intro h1
 ·try simp only[cn]at h1
  have L4:k<os.length:=by omega
  apply AW.skip;apply BM;refine AW.seq fun N3 BQ=>?_;apply AW.block;refine AW.seq fun N hN=>?_;refine AW.KX A9 (by kernel_rfl) [true,false,true,false,false,false,true,false] (.br 1 (.br 3 (.br 4 (.br 5 (.br 7 .nil .nil) .nil) .nil) .nil) (.br 3 (.br 1 (.br 4 (.br 5 (.br 7 .nil .nil) .nil) .nil) (.br 4 (.br 1 (.br 5 (.br 7 .nil .nil) .nil) .nil) .nil)) .nil)) (by kernel_rfl) ?_
  simp-dsimp-implicitDefEqProofs(disch:=(first|omega|((repeat refine LC.AU (by omega) ?_);assumption))) only[go_sem,ints,dG,↓jB,↓jC,↓jD,and_self,RI,hq,Cc,hPl,TX,AP,CC (a:=nx+9) (b:=m) (L:=P) (cs:=cp)];apply hN;refine AW.BD (fun G1 F0=>?_);dsimp only at F0;have A1Y:G1 (nx+7)=some [r0,.h (m+3+5) 0 (k+1),B]:=by rw[←F0];simp(disch:=omega)only[A1]
  have Uj:G1 (m+3+5)=some (cp++[.h (m+3+3) 0 os.length]):=by rw[←F0];simp(disch:=omega)only[A1,A0]
  have A1Z:G1 (m+3+3)=some ((List.replicate os.length (0:Int)).map (.i .i64)):=by rw[←F0,←A1X];simp(disch:=omega)only[A1,A0,AP]
  have A20:G1 nx=some [.nl,.nl,.nl]:=by rw[←F0,←hx];simp(disch:=omega)only[A0,AP]
  have Uk:∀i,nx+9≤i→i<m→bk P≠i+1→G1 i=G i:=fun i i1 i2 i3=>by rw[←F0];simp(disch:=omega)only[A0,AP]
  have Ul:DH (nx+9) (m+3+8) G1 r0 (.h (m+3+5) 0 (k+1)) B os ((L2 os.length).take (k+1)) ((HY os.length).take k):=by
   rw[rW L4,←TX];rw[←TX]at VC;exact VC.Uh k5 (Ow.ints A1Z (by simp)) (by simp) (fun i hi=>by simp at hi;omega) Uj (by omega) (by simp) (by omega) Uk
  have hPB:=VC.ne k5 QP;have Um:LC G1 (nx+9) m B cb:=QP.L1 (fun i hi=>Uk i (by omega) (by omega) (by omega));obtain⟨b1,MX⟩:∃q,m+3+8=q:=⟨_,rfl⟩;rw[MX]at Ul;refine sQ fun N hN=>?_;simp-dsimp-implicitDefEqProofs(disch:=omega)only[go_sem,ints,dG];apply hN;refine AW.seq fun N4 CG=>?_;refine sQ fun N hN=>?_;simp-dsimp-implicitDefEqProofs(disch:=omega)only[go_sem,ints,dG];apply hN;apply AW.block;refine AW.BD (fun G2 XS=>?_);dsimp only at XS
  have A21:∀i,i<b1→G2 i=G1 i:=fun i i1=>by rw[←XS];simp(disch:=omega)only[A0]
  have A22:G2 b1=some []:=by rw[←XS,MX];simp(disch:=omega)only[A1]
  refine AW.AF (α:=Nat×HP×AV×List AV) (fun x=>sl 46 [(2,.q nx 0),(3,.i .i64 os.length),(4,.q (nx+7) 0),(5,.i .i64 k),(6,x.2.2.1),(7,.i .i64 ((k+1+x.1:Nat):Int))]) (fun x=>x.2.1) (fun x m=>(k+1+x.1≤os.length∧b1≤m)∧(∀i,i<b1→x.2.1 i=G1 i)∧WY b1 m x.2.1 x.2.2.1 x.2.2.2 (((lY os.length k).map ints).take x.1)) (fun x=>os.length-x.1) ((0,G2,.h b1 0 0,[])) ?_ ?_ (fun _ _ h=>h) ?_
  ·exact⟨⟨by first|omega|(dsimp only;omega),by first|omega|(dsimp only;omega)⟩,A21,by simpa using WY.empty A22 (Nat.le_refl _) (by first|omega|(dsimp only;omega))⟩
  ·simp(disch:=omega) [AO,AQ,sl,AJ]<;>omega
  skip
  rintro⟨j,H2,L,cl⟩ m2 ⟨⟨hj,TI⟩,MB,hL⟩;simp-dsimp-implicitDefEqProofs(disch:=omega)only[go_sem];dsimp only at hj TI MB hL ⊢;have JK:=hL.1;have dH:=JK.bd;have NU:=JK.one;have KQ:=JK.len;obtain⟨hLc,hLk⟩:=JK.cells;have E6:=hL.len;rw[List.length_take,List.length_map,Q6]at E6;refine AW.seq fun N5 DW=>?_;refine sQ fun N hN=>?_;simp-dsimp-implicitDefEqProofs(disch:=omega)only[go_sem,ints,dG];apply hN;refine AW.cond rfl ?_ ?_<;>intro h2
  ·try simp only[cn]at h2
   have ZX:k+1+j<os.length:=by omega
   have UF:cl.length=j:=by omega
   apply AW.skip;apply DW;refine AW.seq fun N6 HC=>?_;apply AW.block;apply rQ;simp-dsimp-implicitDefEqProofs(disch:=omega)only[go_sem,ints,dG];refine AC.own (IJ os.length (k+1+j) (by omega) (by omega)) (.cons (.refl _) (.cons (.refl _) .nil)) ?_
   intro m3 H3 r3 A23 S9 Nf JT;obtain⟨u4,u5,u6⟩:=JT.1.slice;have LJ:LC H3 b1 m2 L cl:=JK.AD (fun i i1 i2=>Nf i (by omega));have u7:=GW u5;try simp-dsimp-implicitDefEqProofs(disch:=(first|omega|((repeat refine LC.AU (by omega) ?_);assumption))) only[go_sem,u4,u5,u6,u7,KQ,UF,CC (a:=b1) (b:=m2) (L:=L) (cs:=cl)]
   apply HC;refine AW.BD (fun G3 D3=>?_);dsimp only at D3;apply rQ;simp-dsimp-implicitDefEqProofs(disch:=omega)only[go_sem,ints,dG];refine⟨(j+1,G3,.h (m2+3+5) 0 (j+1),cl++[r3]),?_,fun _ _ h=>h,?_,?_⟩
   ·simp(disch:=omega) [AO,AQ,sl,AJ,ints,rows,A4,ints,AJ,dG]<;>omega
   ·refine⟨⟨by first|omega|(dsimp only;omega),by first|omega|(dsimp only;omega)⟩,fun i hi=>?_,?_⟩
    ·dsimp only;rw[←D3];simp(disch:=omega)only[A0,AP];rw[Nf i (by omega)];exact MB i hi
    dsimp only;rw[rX ZX];have Un:=hL.push (H':=G3) (id:=m2+3+5) (m':=m3) (JT.1.AD (fun i hi=>by have:=JT.2.2 i hi;rw[←D3];simp(disch:=omega)only[A0,AP])) JT.2.1 (fun i hi=>by have:=JT.2.2 i hi;omega) (by rw[←D3];simp(disch:=omega)only[A1]) (by omega) (fun hi=>by have:=JT.2.2 _ hi;omega) (by omega) (fun i i1 i2 i3=>by rw[←D3];simp(disch:=omega)only[A0,AP];exact Nf i (by omega));rw[UF]at Un;exact Un.AD (fun _ _ _=>rfl) (by first|omega|(dsimp only;omega))
   first|omega|(simp only;omega)
  try simp only[cn]at h2
  have hje:j=os.length-(k+1):=by omega
  have NH:H2 (nx+7)=some [r0,.h (m+3+5) 0 (k+1),B]:=(MB _ (by omega)).trans A1Y;have A3S:LC H2 (nx+9) m B cb:=Um.AD (fun i i1 i2=>MB i (by omega));rw[List.take_of_length_le (by rw[List.length_map,Q6];omega)]at hL;have u7:=GW NU;apply AW.exit;apply CG;apply rQ;simp-dsimp-implicitDefEqProofs(disch:=(first|omega|((repeat refine LC.AU (by omega) ?_);assumption))) only[go_sem,ints,dG,u7,hLc,hLk,NU,NH,mA,Ui,lZ,AP,CC (a:=nx+9) (b:=m) (L:=B) (cs:=cb)];apply BQ;refine AW.BD (fun G5 DD=>?_);dsimp only at DD;have Jp:G5 (nx+7)=some [r0,.h (m+3+5) 0 (k+1),.h (m2+3+4) 0 (k+1)]:=by rw[←DD];simp(disch:=omega)only[A1]
  have rZ:G5 (m2+3+4)=some (cb++[L]):=by rw[←DD];simp(disch:=omega)only[A1,A0]
  have cE:∀i,i<m2→i≠nx+7→bk B≠i+1→G5 i=H2 i:=fun i i1 i2 i3=>by rw[←DD];simp(disch:=omega)only[A0,AP]
  obtain⟨_,Jq,o1,o2,o3⟩:=hL;have s5:DH (nx+9) (m2+12) G5 r0 (.h (m+3+5) 0 (k+1)) (.h (m2+3+4) 0 (k+1)) os ((L2 os.length).take (k+1)) ((HY os.length).take (k+1)):=by
   rw[rY L4];have:=Ul.Ca (m':=m2+12) (x:=lY os.length k) (r1:=L) (is:=Jq) (H':=G5) (id:=m2+3+4) Um (by rw[GG];exact o1.AD (fun i hi=>by have:=o3 i hi;exact cE i (by omega) (by omega) (by omega))) o2 (fun i hi=>by have:=o3 i hi;omega) rZ (by omega) (fun hi=>by have:=o3 _ hi;omega) (by omega) (fun i i1 i2 i3=>by rw[cE i (by omega) (by omega) (by omega)];exact MB i (by omega));rwa [lZ]at this
  apply rQ;simp-dsimp-implicitDefEqProofs(disch:=omega)only[go_sem,ints,dG];refine⟨(k+1,G5,.h (m+3+5) 0 (k+1),.h (m2+3+4) 0 (k+1),cp++[.h (m+3+3) 0 os.length],cb++[L]),?_,fun _ _ h=>h,?_,?_⟩
  ·simp(disch:=omega) [AO,AQ,sl,AJ,ints,rows,A4,ints,AJ,dG]<;>omega
  ·refine⟨⟨by first|omega|(dsimp only;omega),by first|omega|(dsimp only;omega)⟩,⟨Jp,?_⟩,s5.AD (fun _ _ _=>rfl) (by first|omega|(dsimp only;omega)),⟨.mk ?_ (by simp[TX]) (by omega) (by first|omega|(dsimp only;omega)),by simp[TX]⟩,⟨.mk rZ (by simp[lZ]) (by omega) (by first|omega|(dsimp only;omega)),by simp[lZ]⟩,jZ cD JK.WZ⟩
   ·dsimp only;rw[cE _ (by omega) (by omega) (by omega),MB _ (by omega)];exact A20
   dsimp only;rw[cE _ (by omega) (by omega) (by omega),MB _ (by omega)];exact Uj
  first|omega|(simp only;omega)
 try simp only[cn]at h1
 have W8:k=os.length:=by omega
 apply AW.exit;apply BC;refine sQ fun N hN=>?_;simp-dsimp-implicitDefEqProofs(disch:=omega)only[go_sem,ints,dG,hq,hx,u2,Cc,mA,Bool.and_self];apply hN;apply AW.ret;simp-dsimp-implicitDefEqProofs(disch:=omega)only[go_sem];rw[List.take_of_length_le (by rw[TT];omega),List.take_of_length_le (by rw[TS];omega)]at VC
 exact⟨r0,P,B,cp,cb,rfl,OZ.wide (OZ.AD ⟨VC,k5,QP,cD⟩ (fun i i1 i2=>by simp(disch:=omega)only[A0]) (Nat.le_refl _)) (by omega) (by omega)⟩
theorem Q7(os:List Int)(hn:os.length≤1000):W9 Tryz.prog 118 [ints os] (A8 os (L2 os.length) (HY os.length)):=fun nx=>(FQ os hn nx).mono (by
  rintro nx' H' r ⟨r0,P,B,cp,cb,rfl,h⟩;exact h.1.own)
theorem Q8{cs:List AV}{k:Nat}{x:AV}(h:k<cs.length):B0 cs k [x]=cs.set k x:=by
  rw[B0,List.set_eq_take_append_cons_drop,if_pos h];simp
theorem Ow.Jr{H H':HP}{p k n:Nat}{rs ts:List AV}{ids is:List Nat}{r X:AV}(h:Ow H (.h p 0 n) (.v n ts) ids)(hp:H p=some rs)(hk:k<rs.length)(ho:Ow H' r X is)(Uo:H' p=some (B0 rs k [r]))(EV:∀i∈ids,i≠p→H' i=H i)(CY:ids.Nodup):
    rs.length=n∧ts.length=n∧∃l2 l3,(∀i∈l2++l3,i∈ids)∧p∈ids∧p∉l2++l3∧(l2++l3).Nodup∧Ow H' (.h p 0 n) (.v n (ts.set k X)) (p::(l2++(is++l3))):=by
  rcases h.VA _ _ rfl with ⟨e,_⟩|⟨e,_⟩|⟨id,cs2,CH,e,rfl,g1,g2,g3⟩
  · cases e
  · cases e
  injection e with e1 e2 e3
  subst e1;rw[hp]at g1;cases g1;have hlen:=g3.len;obtain⟨UM,TJ⟩:=List.nodup_cons.1 CY;obtain⟨il,ia,ir,rfl,s1,s2,s3⟩:=(g3.AD (H':=H') (fun i hi=>EV i (by simp[hi]) (fun e=>UM (by rw[←e];exact hi)))).cut (a:=k) hk;have s4:=FI.set s1 ho s3 hk (by omega);have:=Ow.h p _ _ _ Uo (by rw[Q8 hk];exact s4);rw[Q8 hk,List.length_set,g2]at this;refine⟨g2,by omega,il,ir,fun i hi=>?_,by simp,?_,?_,this⟩
  · simp only[List.mem_append,List.mem_cons]at hi ⊢;grind
  · simp only[List.mem_append,not_or]at UM ⊢;grind
  simp only[List.nodup_append,List.mem_append]at TJ ⊢;grind
theorem DH.A24{a m:Nat}{H:HP}{r P B:AV}{os:List Int}{X:List (List Int)}{Y:List (List (List Int))}{b c:Nat}{cs:List AV}(h:DH a m H r P B os X Y)(hP:LC H b c P cs)(hX:0<X.length):∃p,P= .h p 0 X.length∧H p=some cs∧cs.length=X.length∧a≤p∧p<m:=by
  obtain⟨i0,i1,i2,⟨h0,h1,h2⟩,h3,h4⟩:=h;rw[GG]at h1;rcases h1.lc hP with ⟨_,_,e,_⟩|⟨q,CH,rfl,g1,g2,rfl,g3⟩
  · rw[List.length_map]at e;omega
  rw[List.length_map]at g2;exact⟨q,by rw[g2],g1,g2.symm,h4 q (by simp)⟩
theorem DH.MK{a a' m m' p k n:Nat}{H H':HP}{r B r1:AV}{os:List Int}{X:List (List Int)}{Y:List (List (List Int))}{rs:List AV}{x:List Int}{is:List Nat}(h:DH a m H r (.h p 0 n) B os X Y)(hp:H p=some rs)(hk:k<rs.length)(hn:n=X.length)(ho:Ow H' r1 (ints x) is)(CY:is.Nodup)(hb:∀i∈is,(i<a∨m≤i)∧a'≤i∧i<m')
    (Uo:H' p=some (B0 rs k [r1])) (EV:∀i,a≤i→i<m→i≠p→H' i=H i) (hm:m≤m') (Bv:a'≤a):DH a' m' H' r (.h p 0 n) B os (X.set k x) Y:=by
  subst hn;obtain⟨i0,i1,i2,⟨h0,h1,h2⟩,h3,h4⟩:=h;unfold rows at h1;have UM:i1.Nodup:=by grind
  obtain⟨g1,g2,l2,l3,g3,g4,g5,g6,g7⟩:=h1.Jr hp hk ho Uo (fun i hi=>EV i (h4 i (by simp[hi])).1 (h4 i (by simp[hi])).2) UM;have AL:∀i,i∈i0∨i∈i2→i≠p:=by
    intro i hi e;subst e;grind
  refine⟨i0,p::(l2++(is++l3)),i2,⟨h0.AD fun i hi=>EV i (h4 i (by simp[hi])).1 (h4 i (by simp[hi])).2 (AL i (.inl hi)),?_,h2.AD fun i hi=>EV i (h4 i (by simp[hi])).1 (h4 i (by simp[hi])).2 (AL i (.inr hi))⟩,?_,?_⟩
  · unfold rows;rw[List.length_set,List.map_set];exact g7
  · have h5:∀i∈i0++(i1++i2),a≤i∧i<m:=h4;simp only[List.nodup_append,List.nodup_cons,List.mem_append,List.mem_cons]at h3 h5 g3 g5 g6 ⊢;grind
  intro i hi;simp only[List.mem_append,List.mem_cons]at hi h4 g3;grind
theorem DH.A25{a m k:Nat}{H:HP}{r P B:AV}{os:List Int}{X:List (List Int)}{Y:List (List (List Int))}{b c:Nat}{cs:List AV}(h:DH a m H r P B os X Y)(hB:LC H b c B cs)(hk:k<Y.length)(hl:0<(Y.getD k []).length)(cD:WZ (cs.getD k .j)=true):
    ∃b q ds,B= .h b 0 Y.length∧H b=some cs∧cs.length=Y.length∧(a≤b∧b<m)∧cs.getD k .j= .h q 0 (Y.getD k []).length∧H q=some ds∧ds.length=(Y.getD k []).length∧(a≤q∧q<m)∧q≠b:=by
  obtain⟨i0,i1,i2,⟨h0,h1,h2⟩,h3,h4⟩:=h;rw[KP]at h2;rcases h2.lc hB with ⟨_,_,e,_⟩|⟨b1,CH,rfl,g1,g2,rfl,g3⟩
  · rw[List.length_map]at e;omega
  rw[List.length_map]at g2;obtain⟨il,ia,ir,rfl,s1,s2,s3⟩:=g3.cut (a:=k) (by omega);rw[AB hk]at s2;unfold rows at s2;rcases s2.VA _ _ rfl with ⟨e,_⟩|⟨_,e,_⟩|⟨q,ds,ls,e,rfl,t1,t2,t3⟩
  · rw[e]at cD;cases cD
  · omega
  refine⟨b1,q,ds,by rw[g2],g1,g2.symm,h4 b1 (by simp),e,t1,t2,h4 q (by simp),?_⟩;grind
theorem DH.Q9{a a' m m' b q k l n:Nat}{H H':HP}{r P r1:AV}{os:List Int}{X:List (List Int)}{Y:List (List (List Int))}{cs ds:List AV}{x:List Int}{is:List Nat}(h:DH a m H r P (.h b 0 n) os X Y)(RV:H b=some cs)(hk:k<cs.length)(hn:n=Y.length)(hq:cs.getD k .j= .h q 0 (Y.getD k []).length)(hd:H q=some ds)(hl:l<ds.length)(ho:Ow H' r1 (ints x) is)(CY:is.Nodup)(hb:∀i∈is,(i<a∨m≤i)∧a'≤i∧i<m')
    (vV:H' q=some (B0 ds l [r1])) (EV:∀i,a≤i→i<m→i≠q→H' i=H i) (hm:m≤m') (Bv:a'≤a):DH a' m' H' r P (.h b 0 n) os X (Y.set k ((Y.getD k []).set l x)):=by
  subst hn;obtain⟨i0,i1,i2,⟨h0,h1,h2⟩,h3,h4⟩:=h;unfold A4 at h2;rcases h2.VA _ _ rfl with ⟨e,_⟩|⟨e,_⟩|⟨b1,cs1,CH,e,rfl,g1,g2,g3⟩
  · cases e
  · cases e
  injection e with e1 e2 e3
  subst e1;rw[RV]at g1;cases g1;have TJ:(b::CH).Nodup:=by grind
  obtain⟨hn3,hn4⟩:=List.nodup_cons.1 TJ;obtain⟨il,ia,ir,rfl,s1,s2,s3⟩:=g3.cut (a:=k) hk;rw[AB (by omega),hq]at s2;unfold rows at s2;have hna:ia.Nodup:=by grind
  have hia:∀i∈ia,a≤i∧i<m:=fun i hi=>h4 i (by simp[hi])
  obtain⟨w1,w2,l2,l3,w3,w4,w5,w6,w7⟩:=s2.Jr hd hl ho vV (fun i hi AL=>EV i (hia i hi).1 (hia i hi).2 AL) hna;have A26:∀i,i∈i0∨i∈i1∨i=b∨i∈il∨i∈ir→i≠q:=by
    intro i hi e;subst e;simp only[List.nodup_append,List.nodup_cons,List.mem_append,List.mem_cons,not_or]at h3;grind
  have HX:∀i,i∈i0∨i∈i1∨i=b∨i∈il∨i∈ir→H' i=H i:=by
    intro i hi;have h5:a≤i∧i<m:=h4 i (by simp only[List.mem_append,List.mem_cons];grind);exact EV i h5.1 h5.2 (A26 i hi)
  have v4:=FI.set (s1.AD fun i hi=>HX i (by simp[hi])) w7 (s3.AD fun i hi=>HX i (by simp[hi])) hk (by simp;omega);have HS:cs.set k (.h q 0 (Y.getD k []).length)=cs:=by
    apply List.ext_getElem?;intro i;rw[List.getElem?_set];split
    · rename_i e;subst e;rw[←hq,List.getD_eq_getElem?_getD,List.getElem?_eq_getElem hk];rfl
    rfl
  rw[HS]at v4;have v5:=Ow.h b _ _ _ ((HX b (by simp)).trans RV) v4;refine⟨i0,i1,b::(il++(q::(l2++(is++l3))++ir)),⟨h0.AD fun i hi=>HX i (by simp[hi]),h1.AD fun i hi=>HX i (by simp[hi]),?_⟩,?_,?_⟩
  · rw[g2]at v5;unfold A4;rw[List.length_set,List.map_set];have e9:rows ((Y.getD k []).set l x)= .v (Y.getD k []).length (((Y.getD k []).map ints).set l (ints x)):=by unfold rows;rw[List.length_set,List.map_set]
    rw[e9];exact v5
  · have h5:∀i∈i0++(i1++b::(il++(ia++ir))),a≤i∧i<m:=h4;simp only[List.nodup_append,List.nodup_cons,List.mem_append,List.mem_cons]at h3 h5 w3 w5 w6 ⊢;grind
  intro i hi;simp only[List.mem_append,List.mem_cons]at hi h4 w3;grind
theorem DH.D1{a m b c b' c' p q:Nat}{H:HP}{r P B:AV}{os:List Int}{X:List (List Int)}{Y:List (List (List Int))}{cs CX:List AV}(h:DH a m H r P B os X Y)(hP:LC H b c P cs)(hB:LC H b' c' B CX)(hp:bk P=p+1){k:Nat}(hk:k<CX.length)(hq:bk (CX.getD k .j)=q+1):p≠q∧bk B≠p+1∧bk B≠q+1:=by
  obtain⟨i0,i1,i2,⟨h0,h1,h2⟩,h3,h4⟩:=h;have g1:=h1.Y6 hP hp;unfold A4 at h2;rcases h2.lc hB with ⟨_,rfl,_⟩|⟨b1,CH,rfl,g2,g3,rfl,g4⟩
  · simp at hk
  obtain⟨il,ia,ir,rfl,s1,s2,s3⟩:=g4.cut (a:=k) hk;have hqi:q∈ia:=by
    generalize hc:CX.getD k .j=C at s2 hq
    generalize (Y.map rows).getD k .j=Z at s2
    cases s2 with
    |leaf _ hf hn=>cases C<;>simp only[bk]at hq<;>first|omega|(cases hn)
    |nl=>cases hq
    |h id cs ts CH g1 g2=>simp only[bk]at hq;simp;omega
    |q=>cases hq
    |g=>cases hq
    |t=>cases hq
  simp only[bk];simp only[List.nodup_append,List.nodup_cons,List.mem_append,List.mem_cons,not_or]at h3;refine⟨?_,?_,?_⟩<;>grind
theorem OZ.MK{a m k:Nat}{H:HP}{r P B:AV}{os:List Int}{X:List (List Int)}{Y:List (List (List Int))}{cp cb:List AV}(h:OZ a m H r P B os X Y cp cb)(hk:k<X.length):∃p,P= .h p 0 X.length∧H p=some cp∧cp.length=X.length∧(a≤p∧p<m)∧
    ∀(H':HP) (r1:AV) (x:List Int) (is:List Nat) (a' m':Nat),Ow H' r1 (ints x) is→is.Nodup→(∀i∈is,(i<a∨m≤i)∧a'≤i∧i<m')→H' p=some (B0 cp k [r1])→(∀i,a≤i→i<m→i≠p→H' i=H i)→m≤m'→a'≤a→OZ a' m' H' r P B os (X.set k x) Y (B0 cp k [r1]) cb:=by
  obtain⟨h1,h2,h3,h4⟩:=h;obtain⟨p,rfl,hp,hl,p1,p2⟩:=h1.A24 h2 (by omega);refine⟨p,rfl,hp,hl,⟨p1,p2⟩,fun H' r1 x is a' m' g1 g2 g3 g4 g5 g6 g7=>⟨h1.MK hp (by omega) rfl g1 g2 g3 g4 g5 g6 g7,?_,?_,h4⟩⟩
  · exact .mk g4 (by rw[OF (by simp;omega)];exact hl.symm) (by omega) (by omega)
  have AL:bk B≠p+1:=by
    have:=h1.ne h2 h3;rw[show bk (.h p 0 X.length)=p+1 from rfl]at this;omega
  exact(h3.L1 (fun i hi=>g5 i (by have:=h3.bd;omega) (by have:=h3.bd;omega) (fun e=>AL (by rw[←e];exact hi)))).wide g7 g6
theorem OZ.Q9{a m k l:Nat}{H:HP}{r P B:AV}{os:List Int}{X:List (List Int)}{Y:List (List (List Int))}{cp cb:List AV}(h:OZ a m H r P B os X Y cp cb)(hk:k<Y.length)(hl:l<(Y.getD k []).length):∃b q ds,B= .h b 0 Y.length∧H b=some cb∧cb.length=Y.length∧(a≤b∧b<m)∧cb.getD k .j= .h q 0 (Y.getD k []).length∧H q=some ds∧ds.length=(Y.getD k []).length∧(a≤q∧q<m)∧q≠b∧
    ∀(H':HP) (r1:AV) (x:List Int) (is:List Nat) (a' m':Nat),Ow H' r1 (ints x) is→is.Nodup→(∀i∈is,(i<a∨m≤i)∧a'≤i∧i<m')→H' q=some (B0 ds l [r1])→(∀i,a≤i→i<m→i≠q→H' i=H i)→m≤m'→a'≤a→OZ a' m' H' r P B os X (Y.set k ((Y.getD k []).set l x)) cp cb:=by
  obtain⟨h1,h2,h3,h4⟩:=h;have hlen:k<cb.length:=by
    obtain⟨i0,i1,i2,⟨g0,g1,g2⟩,_⟩:=id h1;rw[KP]at g2;rcases g2.lc h3 with ⟨_,_,e,_⟩|⟨_,_,_,_,e,_⟩<;>rw[List.length_map]at e<;>omega
  have DL:WZ (cb.getD k .j)=true:=h4 _ (by rw[List.getD_eq_getElem?_getD,List.getElem?_eq_getElem hlen];exact List.getElem_mem _);obtain⟨b,q,ds,rfl,hb,E6,Zl,hq,hd,By,q12,Cd⟩:=h1.A25 h3 hk (by omega) DL;refine⟨b,q,ds,rfl,hb,E6,Zl,hq,hd,By,q12,Cd,fun H' r1 x is a' m' g1 g2 g3 g4 g5 g6 g7=>⟨h1.Q9 hb hlen rfl hq hd (by omega) g1 g2 g3 g4 g5 g6 g7,?_,?_,h4⟩⟩
  · refine(h2.L1 (fun i hi=>g5 i (by have:=h2.bd;omega) (by have:=h2.bd;omega) (fun e=>?_))).wide g7 g6;have:=h1.D1 h2 h3 hi hlen (q:=q) (by rw[hq];rfl);exact this.1 e
  exact .mk (by rw[g5 b Zl.1 Zl.2 (fun e=>Cd e.symm)];exact hb) E6.symm (by omega) (by omega)
end Go.Proofs.YtghmeeifjeafmaaGreat
