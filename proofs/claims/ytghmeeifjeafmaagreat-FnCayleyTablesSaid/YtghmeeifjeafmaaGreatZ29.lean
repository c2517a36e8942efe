import Derived.Test.YtghmeeifjeafmaaGreatZ08
import Derived.Test.YtghmeeifjeafmaaGreatZ27
import Derived.Test.YtghmeeifjeafmaaGreatZ28
set_option linter.unusedVariables false
set_option linter.unusedSimpArgs false
namespace Go.Proofs.YtghmeeifjeafmaaGreat
theorem mB{α:Type}(f:α→AV){L:List α}{k:Nat}{d:α}(h:k<L.length):(L.map f).take (k+1)=(L.map f).take k++[f (L.getD k d)]:=by
  rw[List.take_succ_eq_append_getElem (by simpa using h)];simp[h]
theorem D9(pw:List (List Int))(gL:B6 pw):∀nx,AC Tryz.prog 65 nx BN [rows pw] (fun nx' H' r=>∃cs,WY nx nx' H' r cs (pw.map ints)):=by
 have hl:pw.length≤1048576:=gL.n
 have hr:∀k,k<pw.length→(pw.getD k []).length≤1048576:=fun k _=>IA (P:=fun x:List Int=>x.length≤1048576) gL.v (by simp) k
 intro nx
 refine AC.AM A9 Tryz.func65 rfl (by kernel_rfl) Tryz.ntmps65 Tryz.results65 (fun cX=>?_)
 refine sQ fun N hN=>?_;simp-dsimp-implicitDefEqProofs(disch:=omega)only[go_sem,rows,A7];apply hN;refine sQ fun N hN=>?_;simp-dsimp-implicitDefEqProofs(disch:=omega)only[go_sem,rows,A7];apply hN;refine AW.seq fun N1 BC=>?_;refine sQ fun N hN=>?_;simp-dsimp-implicitDefEqProofs(disch:=omega)only[go_sem,rows,A7];apply hN;apply AW.block;refine AW.AF (α:=Nat×HP×AV×List AV) (fun x=>sl 21 [(0,rows pw),(3,x.2.2.1),(4,.i .i64 x.1)]) (fun x=>x.2.1) (fun x m=>(x.1≤pw.length∧nx≤m)∧WY nx m x.2.1 x.2.2.1 x.2.2.2 ((pw.map ints).take x.1)) (fun x=>pw.length-x.1) ((0,AU BN (nx+1) (some []),.h (nx+1) 0 0,[])) ?_ ?_ (fun _ _ h=>h) ?_
 ·exact⟨⟨by simp,by first|omega|(dsimp only;omega)⟩,by simpa using WY.empty (A1 _ _ _) (by omega) (by first|omega|(dsimp only;omega))⟩
 ·simp(disch:=omega) [AO,AQ,sl,rows]
 skip
 rintro⟨k,G,L,cs⟩ m ⟨⟨hk,hm⟩,hL⟩
 simp-dsimp-implicitDefEqProofs(disch:=omega)only[go_sem];dsimp only at hk hm hL ⊢
 have JK:=hL.1
 have dH:=JK.bd
 have NU:=JK.one
 have KQ:=JK.len
 have E6:=hL.len
 rw[List.length_take,List.length_map]at E6
 refine AW.seq fun N2 BM=>?_;refine sQ fun N hN=>?_;simp-dsimp-implicitDefEqProofs(disch:=omega)only[go_sem,rows,A7];apply hN;refine AW.cond rfl ?_ ?_<;>intro h1
 ·try simp only[cn]at h1
  have EX:k<pw.length:=by omega
  have UF:cs.length=k:=by omega
  apply AW.skip;apply BM;refine AW.seq fun N3 BQ=>?_;apply AW.block;apply rQ;simp-dsimp-implicitDefEqProofs(disch:=omega)only[go_sem,rows,A7];refine AC.own (Cb (pw.getD k []) (by have:=hr k EX;omega)) (.cons (.refl _) .nil) ?_
  intro m3 H3 r3 A23 S9 Nf JT;obtain⟨u4,u5,u6⟩:=JT.1.slice;have LJ:LC H3 nx m L cs:=JK.AD (fun i i1 i2=>Nf i (by omega));have u7:=GW u5;try simp-dsimp-implicitDefEqProofs(disch:=(first|omega|((repeat refine LC.AU (by omega) ?_);assumption))) only[go_sem,u4,u5,u6,u7,KQ,UF,CC (a:=nx) (b:=m) (L:=L) (cs:=cs)]
  apply BQ;refine AW.BD (fun G3 D3=>?_);dsimp only at D3;apply rQ;simp-dsimp-implicitDefEqProofs(disch:=omega)only[go_sem,rows,A7];refine⟨(k+1,G3,.h (m+4+7) 0 (k+1),cs++[r3]),?_,fun _ _ h=>h,?_,?_⟩
  ·simp(disch:=omega) [AO,AQ,sl,AJ,rows]
  ·refine⟨⟨by first|omega|(dsimp only;omega),by first|omega|(dsimp only;omega)⟩,?_⟩;dsimp only;rw[mB ints EX (d:=[])];have Un:=hL.push (H':=G3) (id:=m+4+7) (m':=m3) (JT.1.AD (fun i hi=>by have:=JT.2.2 i hi;rw[←D3];simp(disch:=omega)only[A0,AP])) JT.2.1 (fun i hi=>by have:=JT.2.2 i hi;omega) (by rw[←D3];simp(disch:=omega)only[A1]) (by omega) (fun hi=>by have:=JT.2.2 _ hi;omega) (by omega) (fun i i1 i2 i3=>by rw[←D3];simp(disch:=omega)only[A0,AP];exact Nf i (by omega));rw[UF]at Un;exact Un.AD (fun _ _ _=>rfl) (by first|omega|(dsimp only;omega))
  first|omega|(simp only;omega)
 try simp only[cn]at h1
 have W8:k=pw.length:=by omega
 rw[List.take_of_length_le (by rw[List.length_map];omega)]at hL
 apply AW.exit;apply BC;refine sQ fun N hN=>?_;simp-dsimp-implicitDefEqProofs(disch:=omega)only[go_sem,rows,A7];apply hN;apply AW.ret;simp-dsimp-implicitDefEqProofs(disch:=omega)only[go_sem];exact⟨cs,hL.AD (fun _ _ _=>rfl) (by omega)⟩
theorem Ce(a:List Int)(ha:a.length≤1099511627776)(nx:Nat)(H:HP):AC Tryz.prog 104 nx H [ints a] (fun nx' H' r=>WZ r=true∧(∃ids,Own nx nx' H' r (ints a) ids)∧∀i,i<nx→H' i=H i):=by
  refine(CB a ha nx H).mono ?_;rintro nx' H' r ⟨id,rfl,h1,h2,rfl⟩;exact⟨rfl,⟨_,Own.ints (by rw[A1,KD]) rfl h1 h2⟩,fun i hi=>A0 _ _ (by omega)⟩
theorem mkO{N:St→Prop}{C:Nat→HP→AV→AV→List Nat→List AV→Prop}{S:Nat→HP→AV→AV→St}{G:Prop}(h1:(∀m H r P ids cs,C m H r P ids cs→N (S m H r P))→G)(h2:∀m H r P ids cs,C m H r P ids cs→N (S m H r P)):G:=h1 h2
theorem mkL{N:St→Prop}{C:Nat→HP→AV→List AV→Prop}{S:Nat→HP→AV→St}{G:Prop}(h1:(∀m H L cs,C m H L cs→N (S m H L))→G)(h2:∀m H L cs,C m H L cs→N (S m H L)):G:=h1 h2
set_option maxHeartbeats 4000000 in
theorem O5(os:List Int)(pw:List (List Int))(cj:List (List (List Int)))(h0:os.length≤1048576)(h1:B6 pw)(h2:E9 cj):∀nx,AC Tryz.prog 64 nx BN [A8 os pw cj] (fun nx' H' r=>∃r0 P B cp cb,r= .g [r0,P,B]∧OZ nx nx' H' r0 P B os pw cj cp cb∧WZ r0=true):=by
 intro nx
 refine AC.AM A9 Tryz.func64 rfl (by kernel_rfl) Tryz.ntmps64 Tryz.results64 (fun cX=>?_)
 refine sQ fun N hN=>?_;simp-dsimp-implicitDefEqProofs(disch:=omega)only[go_sem,A8];apply hN;refine AW.B5 1 nx [ints os,rows pw,A4 cj] rfl (by simp(disch:=omega)only[A0,A1]) ?_
 simp-dsimp-implicitDefEqProofs(disch:=omega)only[go_sem];refine AW.seq fun N hN=>?_;apply mkO (N:=N)
 ·intro key;refine AW.KX A9 (by kernel_rfl) [true,true,false,true,true,false,false,false,false] (.br 2 (.br 5 (.br 6 (.br 7 (.br 8 .nil .nil) .nil) (.br 7 (.br 6 (.br 8 .nil .nil) .nil) .nil)) (.br 7 (.br 5 (.br 6 (.br 8 .nil .nil) .nil) .nil) .nil)) (.br 7 (.br 2 (.br 5 (.br 6 (.br 8 .nil .nil) .nil) .nil) .nil) .nil)) (by kernel_rfl) ?_;simp-dsimp-implicitDefEqProofs(disch:=omega)only[go_sem,A8];refine⟨?_,?_⟩
  ·skip
   refine(Ce os (by omega) _ _).AG ?_;rintro m0 H0 r0 U2 ⟨mC,⟨cC,L3⟩,vZ⟩;obtain⟨u1,u2,u3⟩:=L3.1.slice;try simp-dsimp-implicitDefEqProofs(disch:=omega)only[go_sem,A8,u1,u2,u3]
   refine⟨?_,?_⟩
   ·skip
    refine(AC.frame (D9 pw h1 _)).AG ?_;rintro m1 H1 P MW ⟨G0,⟨cp,s6⟩,CK,F4⟩;have fH:=s6.AD (H':=H1) (fun i i1 i2=>F4 i i1) (Nat.le_refl _);obtain⟨v1,v2⟩:=s6.1.cells;have v3:=s6.1.one;have HN:=L3.AD (H':=H1) (fun i i1 i2=>CK i i2) (Nat.le_refl _) (Nat.le_refl _);have hb:H1 (nx+1)=some [.nl,.nl,.nl]:=by rw[CK _ (by omega),vZ _ (by omega)];simp(disch:=omega)only[A0,A1]
    (try simp-dsimp-implicitDefEqProofs(disch:=omega)only[go_sem,A8,u1,u2,u3,v1,v2,v3,and_self]);exact key m1 H1 r0 P cC cp (And.intro hb (Exists.intro m0 (And.intro (And.intro (And.intro U2 mC) MW) (And.intro HN fH))))
   skip
   refine(AC.frame (D9 pw h1 _)).AG ?_;rintro m1 H1 P MW ⟨G0,⟨cp,s6⟩,CK,F4⟩;have fH:=s6.AD (H':=H1) (fun i i1 i2=>F4 i i1) (Nat.le_refl _);obtain⟨v1,v2⟩:=s6.1.cells;have v3:=s6.1.one;have HN:=L3.AD (H':=H1) (fun i i1 i2=>by rw[CK i i2];simp(disch:=omega)only[A0]) (Nat.le_refl _) (Nat.le_refl _);have hb:H1 (nx+1)=some [.nl,.nl,.nl]:=by rw[CK _ (by omega)];simp(disch:=omega)only[A0];rw[vZ _ (by omega)];simp(disch:=omega)only[A0,A1]
   have hc:H1 (nx+2+7)=some [.nl,.nl,.nl]:=by rw[CK _ (by omega)];simp(disch:=omega)only[A1]
   try simp-dsimp-implicitDefEqProofs(disch:=omega)only[go_sem,A8,u1,u2,u3,v1,v2,v3,and_self,hc]
   exact key m1 H1 r0 P cC cp (And.intro hb (Exists.intro m0 (And.intro (And.intro (And.intro U2 mC) MW) (And.intro HN fH))))
  skip
  refine(Ce os (by omega) _ _).AG ?_;rintro m0 H0 r0 U2 ⟨mC,⟨cC,L3⟩,vZ⟩;obtain⟨u1,u2,u3⟩:=L3.1.slice;try simp-dsimp-implicitDefEqProofs(disch:=omega)only[go_sem,A8,u1,u2,u3]
  refine(AC.frame (D9 pw h1 _)).AG ?_;rintro m1 H1 P MW ⟨G0,⟨cp,s6⟩,CK,F4⟩;have fH:=s6.AD (H':=H1) (fun i i1 i2=>F4 i i1) (Nat.le_refl _);obtain⟨v1,v2⟩:=s6.1.cells;have v3:=s6.1.one;have HN:=L3.AD (H':=H1) (fun i i1 i2=>CK i i2) (Nat.le_refl _) (Nat.le_refl _);have hb:H1 (nx+1)=some [.nl,.nl,.nl]:=by rw[CK _ (by omega),vZ _ (by omega)];simp(disch:=omega)only[A0,A1]
  have hc:H1 (nx+2+7)=some [.nl,.nl,.nl]:=by rw[CK _ (by omega),vZ _ (by omega)];simp(disch:=omega)only[A0,A1]
  try simp-dsimp-implicitDefEqProofs(disch:=omega)only[go_sem,A8,u1,u2,u3,v1,v2,v3,and_self,hc]
  exact key m1 H1 r0 P cC cp (And.intro hb (Exists.intro m0 (And.intro (And.intro (And.intro U2 mC) MW) (And.intro HN fH))))
 intro m1 H1 r0 P cC cp hC
 obtain⟨hb,m0,⟨⟨U2,mC⟩,MW⟩,HN,fH⟩:=hC
 apply hN;refine AW.seq fun N1 BC=>?_;refine sQ fun N hN=>?_;simp-dsimp-implicitDefEqProofs(disch:=omega)only[go_sem,A8];apply hN;apply AW.block;refine AW.BD (fun G1 F0=>?_);dsimp only at F0
 have QL:G1 (nx+9)=some [r0,P,.nl]:=by rw[←F0];simp(disch:=omega)only[A1]
 have JA:G1 (nx+1)=some [.nl,.nl,.nl]:=by rw[←F0,←hb];simp(disch:=omega)only[A0]
 obtain⟨A27,xC,w1,w2,w3⟩:=fH
 have A28:LC G1 m0 m1 P cp:=A27.AD (fun i i1 i2=>by rw[←F0];simp(disch:=omega)only[A0])
 have A29:DH (nx+11) m1 G1 r0 P .nl os pw []:=by
  refine⟨cC,xC,[],⟨HN.1.AD (fun i hi=>by have:=HN.2.2 i hi;rw[←F0];simp(disch:=omega)only[A0]),?_,.nl⟩,?_,?_⟩
  ·rw[GG];exact w1.AD (fun i hi=>by have:=w3 i hi;rw[←F0];simp(disch:=omega)only[A0])
  ·rw[List.append_nil,List.nodup_append];exact⟨HN.2.1,w2,fun x hx y hy e=>by have:=HN.2.2 x hx;have:=w3 y hy;omega⟩
  intro i hi;rw[List.append_nil,List.mem_append]at hi;rcases hi with hi|hi
  ·have:=HN.2.2 i hi;omega
  have:=w3 i hi;omega
 have E6:cj.length≤1048576:=h2.n
 refine AW.AF (α:=Nat×HP×AV×List AV) (fun x=>sl 31 [(1,.p 0 [ints os,rows pw,A4 cj]),(2,.q (nx+1) 0),(3,.q (nx+9) 0),(4,.i .i64 x.1)]) (fun x=>x.2.1) (fun x m=>(x.1≤cj.length∧m1≤m)∧(x.2.1 (nx+9)=some [r0,P,x.2.2.1]∧x.2.1 (nx+1)=some [.nl,.nl,.nl])∧DH (nx+11) m x.2.1 r0 P x.2.2.1 os pw (cj.take x.1)∧LC x.2.1 (nx+11) m P cp∧(LC x.2.1 (nx+11) m x.2.2.1 x.2.2.2∧x.2.2.2.length=x.1)∧∀y∈x.2.2.2,WZ y=true) (fun x=>cj.length-x.1) ((0,G1,.nl,[])) ?_ ?_ (fun _ _ h=>h) ?_
 ·exact⟨⟨by simp,by first|omega|(dsimp only;omega)⟩,⟨QL,JA⟩,by simpa using A29.AD (fun _ _ _=>rfl) (by first|omega|(dsimp only;omega)),A28.wide (by omega) (by first|omega|(dsimp only;omega)),⟨.nil,rfl⟩,by simp⟩
 ·simp(disch:=omega) [AO,AQ,sl,AJ,A4]
 skip
 rintro⟨k,G,B,cb⟩ m ⟨⟨hk,hm⟩,⟨hq,hx⟩,VC,k5,⟨QP,lZ⟩,cD⟩
 simp-dsimp-implicitDefEqProofs(disch:=omega)only[go_sem];dsimp only at hk hm hq hx VC k5 QP lZ cD ⊢
 have hPb:=k5.bd
 have Cc:=k5.one
 have hBb:=QP.bd
 have mA:=QP.one
 have Ui:=QP.len
 refine AW.seq fun N2 BM=>?_;refine sQ fun N hN=>?_;simp-dsimp-implicitDefEqProofs(disch:=omega)only[go_sem,A8,A4];apply hN;refine AW.cond rfl ?_ ?_<;>intro h1
 ·try simp only[cn]at h1
  have L4:k<cj.length:=by omega
  have Dp:B6 (cj.getD k []):=IA h2.v .nil k;apply AW.skip;apply BM;refine AW.seq fun N3 BQ=>?_;apply AW.block;refine AW.name fun N hN=>?_;apply mkL (N:=N)
  ·intro key;refine AW.KX A9 (by kernel_rfl) [true,false,true,true,true,true,true,false,false,false,true,false] (.br 1 (.br 7 (.br 8 (.br 9 (.br 11 .nil .nil) .nil) .nil) .nil) (.br 7 (.br 1 (.br 8 (.br 9 (.br 11 .nil .nil) .nil) .nil) (.br 8 (.br 1 (.br 9 (.br 11 .nil .nil) .nil) .nil) .nil)) .nil)) (by kernel_rfl) ?_;simp-dsimp-implicitDefEqProofs(disch:=omega)only[go_sem,A8,↓jB,↓jC,↓jD,A4,AB,hq,mA,Ui,lZ,AP];refine⟨?_,?_⟩
   ·skip
    refine(AC.frame (D9 (cj.getD k []) Dp _)).AG ?_;rintro m3 H3 L S9 ⟨G0,⟨cl,dI⟩,CK,F4⟩;have Js:=dI.AD (H':=H3) (fun i i1 i2=>F4 i i1) (Nat.le_refl _);obtain⟨v1,v2⟩:=dI.1.cells;have v3:=GW dI.1.one;have A2A:LC H3 (nx+11) m B cb:=QP.AD (fun i i1 i2=>CK i (by omega));have WQ:H3 (nx+9)=some [r0,P,B]:=(CK _ (by omega)).trans hq;try simp-dsimp-implicitDefEqProofs(disch:=(first|omega|((repeat refine LC.AU (by omega) ?_);assumption))) only[go_sem,A8,v1,v2,v3,WQ,mA,Ui,lZ,AP,GW mA,and_self,CC (a:=nx+11) (b:=m) (L:=B) (cs:=cb)]
    exact key m3 H3 L cl (And.intro S9 (And.intro CK Js))
   skip
   refine(AC.frame (D9 (cj.getD k []) Dp _)).AG ?_;rintro m3 H3 L S9 ⟨G0,⟨cl,dI⟩,CK,F4⟩;have Js:=dI.AD (H':=H3) (fun i i1 i2=>F4 i i1) (Nat.le_refl _);obtain⟨v1,v2⟩:=dI.1.cells;have v3:=GW dI.1.one;have A2A:LC H3 (nx+11) m B cb:=QP.AD (fun i i1 i2=>CK i (by omega));have WQ:H3 (nx+9)=some [r0,P,B]:=(CK _ (by omega)).trans hq;try simp-dsimp-implicitDefEqProofs(disch:=(first|omega|((repeat refine LC.AU (by omega) ?_);assumption))) only[go_sem,A8,v1,v2,v3,WQ,mA,Ui,lZ,AP,GW mA,and_self,CC (a:=nx+11) (b:=m) (L:=B) (cs:=cb)]
   exact key m3 H3 L cl (And.intro S9 (And.intro CK Js))
  intro m3 H3 L cl hC;obtain⟨S9,CK,JK,Jq,o1,o2,o3⟩:=hC;apply hN;apply BQ;refine AW.BD (fun G5 DD=>?_);dsimp only at DD;have Jp:G5 (nx+9)=some [r0,P,.h (m+5+9) 0 (k+1)]:=by rw[←DD];simp(disch:=omega)only[A1]
  have rZ:G5 (m+5+9)=some (cb++[L]):=by rw[←DD];simp(disch:=omega)only[A1,A0]
  have cE:∀i,i<m→i≠nx+9→bk B≠i+1→G5 i=G i:=fun i i1 i2 i3=>by rw[←DD];simp(disch:=omega)only[A0,AP];exact CK i (by omega)
  have A2B:∀i,m+5+12≤i→G5 i=H3 i:=fun i i1=>by rw[←DD];simp(disch:=omega)only[A0,AP]
  have hPB:=VC.ne k5 QP;have s5:DH (nx+11) m3 G5 r0 P (.h (m+5+9) 0 (k+1)) os pw (cj.take (k+1)):=by
   have ht:cj.take (k+1)=cj.take k++[cj.getD k []]:=by
    rw[List.take_succ_eq_append_getElem L4];simp[L4]
   rw[ht];have:=VC.Ca (m':=m3) (x:=cj.getD k []) (r1:=L) (is:=Jq) (H':=G5) (id:=m+5+9) QP (by rw[GG];exact o1.AD (fun i hi=>by have:=o3 i hi;exact A2B i (by omega))) o2 (fun i hi=>by have:=o3 i hi;omega) rZ (by omega) (fun hi=>by have:=o3 _ hi;omega) (by omega) (fun i i1 i2 i3=>cE i (by omega) (by omega) i3);rwa [lZ]at this
  apply rQ;simp-dsimp-implicitDefEqProofs(disch:=omega)only[go_sem,A8];refine⟨(k+1,G5,.h (m+5+9) 0 (k+1),cb++[L]),?_,fun _ _ h=>h,?_,?_⟩
  ·simp(disch:=omega) [AO,AQ,sl,AJ,ints,rows,A4,A8,AJ]<;>omega
  ·refine⟨⟨by first|omega|(dsimp only;omega),by first|omega|(dsimp only;omega)⟩,⟨Jp,?_⟩,s5.AD (fun _ _ _=>rfl) (by first|omega|(dsimp only;omega)),?_,⟨.mk rZ (by simp[lZ]) (by omega) (by first|omega|(dsimp only;omega)),by simp[lZ]⟩,jZ cD JK.WZ⟩
   ·dsimp only;rw[cE _ (by omega) (by omega) (by omega)];exact hx
   exact(k5.L1 (fun i i1=>cE i (by omega) (by omega) (by omega))).wide (Nat.le_refl _) (by first|omega|(dsimp only;omega))
  first|omega|(simp only;omega)
 try simp only[cn]at h1
 have W8:k=cj.length:=by omega
 rw[List.take_of_length_le (by omega)]at VC
 apply AW.exit;apply BC;refine sQ fun N hN=>?_;simp-dsimp-implicitDefEqProofs(disch:=omega)only[go_sem,A8,hq,hx,(HN.1.slice).2.1,Cc,mA,Bool.and_self]
 apply hN;apply AW.ret;simp-dsimp-implicitDefEqProofs(disch:=omega)only[go_sem];exact⟨r0,P,B,cp,cb,rfl,OZ.wide (OZ.AD ⟨VC,k5,QP,cD⟩ (fun i i1 i2=>by simp(disch:=omega)only[A0]) (Nat.le_refl _)) (by omega) (by omega),mC⟩
theorem X5(os:List Int)(pw:List (List Int))(cj:List (List (List Int)))(h0:os.length≤1048576)(h1:B6 pw)(h2:E9 cj)(nx:Nat):AC Tryz.prog 64 nx BN [A8 os pw cj] (fun nx' H' r=>∃r0 P B cp cb,r= .g [r0,P,B]∧OZ nx nx' H' r0 P B os pw cj cp cb):=(O5 os pw cj h0 h1 h2 nx).mono fun _ _ _ ⟨r0,P,B,cp,cb,e,h,_⟩=>⟨r0,P,B,cp,cb,e,h⟩
theorem AC.Up{P:Program}{f:FuncId}{nx:Nat}{H:HP}{xs:List AV}{Q Q':Nat→HP→AV→Prop}(h:AC P f nx H xs Q)(hq:∀n H' r,Q n H' r→∃H2 r2,L7 H' H2∧Fz H' H2 r r2∧Q' n H2 r2):AC P f nx H xs Q':=
  ⟨h.1,fun L Av w us a b c=>(h.2 L Av w us a b c).mono fun e w' ⟨u,r,L',nx',H',h1,h2,h3,h4,h5,h6,h7,h8⟩=>by
    obtain⟨H2,r2,g1,g2,g3⟩:=hq _ _ _ h2;exact⟨u,r2,L',nx',H2,h1,g3,h3,h4,h5,h6.fz g1,⟨h7.le,h7.os,h7.tape,h7.output,h7.size,h7.AD,fun b hb hl=>h7.old b hb (g1.lb hl)⟩,g2.sound h6 g1 h8⟩⟩
theorem AC.s7{P:Program}{f:FuncId}{nx:Nat}{H:HP}{xs ts:List AV}{Q:Nat→HP→AV→Prop}(h:AC P f nx BN ts Q)(hQ:∀n H0 r,Q n H0 r→∃X ids,Own nx n H0 r X ids∧∀H',(∀i∈ids,H' i=H0 i)→Q n H' r)(hv:WK H xs ts):
    AC P f nx H xs fun nx' H' r=>Q nx' H' r∧∀i,i<nx→H' i=H i:=by
  obtain⟨he,DE⟩:=h;refine⟨he,fun L Av w us hs C7 ha=>(DE L Av w us (LX hs.LP) C7 (by rw[LY];exact ha.view hs hv)).mono ?_⟩;rintro e w' ⟨u,r,L',nx',H',h1,hq,h3,h4,h5,h6,h7,h8⟩;obtain⟨X,ids,⟨h2,CR,w9⟩,NH⟩:=hQ _ _ _ hq;obtain⟨uA,dB⟩:=h2.fl;have Yj:∀i,nx≤i→H i=none:=by
    intro i hi;cases hh:H i with
    |none=>rfl
    |some cs=>obtain⟨l,g1,_⟩:=hs.node i cs hh;rw[C7 i hi]at g1;cases g1
  let H2:HP:=fun i=>if i<nx then H i else if i∈ids then H' i else none
  have CK:∀i,i<nx→H2 i=H i:=fun i hi=>by simp only[H2,hi,if_true]
  have El:∀i∈ids,H2 i=H' i:=by
    intro i hi;have:=w9 i hi;simp only[H2];rw[if_neg (by omega),if_pos hi]
  have GA:∀b,b<w.heap.size→w'.heap[b]? =w.heap[b]? :=fun b hb=>h7.AD b hb HG
  have live:∀i cs,H2 i=some cs→(i<nx∧H i=some cs)∨(i∈ids∧nx≤i∧H' i=some cs):=by
    intro i cs hi;simp only[H2]at hi;split at hi
    · exact .inl ⟨by assumption,hi⟩
    split at hi
    · exact .inr ⟨by assumption,by omega,hi⟩
    cases hi
  have I9:∀i cs l,H' i=some cs→L' i=some l→w.heap.size≤l.D1:=by
    intro i cs l g1 g2;apply Classical.byContradiction;intro BW;exact HG (h7.old l.D1 (by omega) ⟨i,cs,l,g1,g2,rfl⟩)
  have EM:Step L H w L' H2 w':=by
    refine⟨h7.le,h7.os,h7.tape,h7.output,h7.size,fun b hb _=>GA b hb,?_⟩;rintro b hb ⟨i,cs,l,g1,g2,g3⟩;rcases live i cs g1 with ⟨g4,g5⟩|⟨g4,g5,g6⟩
    · exact⟨i,cs,l,g5,by rw[←h5 i g4];exact g2,g3⟩
    have:=I9 i cs l g6 g2;omega
  have Em:SR L' H2 Av w':=by
    refine⟨?_,?_,?_,fun b hb=>Nat.lt_of_lt_of_le (hs.LP b hb) h7.size⟩
    · intro i cs hi;rcases live i cs hi with ⟨g4,g5⟩|⟨g4,g5,g6⟩
      · obtain⟨l,g7,CY⟩:=hs.node i cs g5;exact⟨l,by rw[h5 i g4];exact g7,CY.mono (GA _ CY.lt) fun k x hk c oJ=>oJ.step EM⟩
      obtain⟨l,g7,CY⟩:=h6.node i cs g6;refine⟨l,g7,CY.mono rfl fun k x hk c oJ=>?_⟩;obtain⟨CX,Oz,g15⟩:=dB i g4;rw[g6]at Oz;cases Oz;exact oJ.fl (fun _ _ h=>h) (g15 k x hk)
    · intro i i' cs CX l l' g1 g2 g3 g4 g5;rcases live i cs g1 with ⟨q1,q2⟩|⟨q1,q2,q3⟩<;>rcases live i' CX g2 with ⟨q4,q5⟩|⟨q4,q5',q6⟩
      · exact hs.inj i i' cs CX l l' q2 q5 (by rw[←h5 i q1];exact g3) (by rw[←h5 i' q4];exact g4) g5
      · have a1:=IX hs ⟨i,cs,l,q2,by rw[←h5 i q1];exact g3,rfl⟩;have a2:=I9 i' CX l' q6 g4;omega
      · have a1:=IX hs ⟨i',CX,l',q5,by rw[←h5 i' q4];exact g4,rfl⟩;have a2:=I9 i cs l q3 g3;omega
      exact h6.inj i i' cs CX l l' q3 q6 g3 g4 g5
    intro i cs l g1 g2;rcases live i cs g1 with ⟨q1,q2⟩|⟨q1,q2,q3⟩
    · exact hs.av i cs l q2 (by rw[←h5 i q1];exact g2)
    exact h6.av i cs l q3 g2
  exact⟨u,r,L',nx',H2,h1,⟨NH H2 El,CK⟩,h3,h4,h5,Em,EM,h8.fl (fun _ _ h=>h) uA⟩

mutual
theorem Ow.ML{H H2:HP}{r X:AV}{ids:List Nat}(h:Ow H r X ids)(hz:∀i∈ids,H2 i=none):Fz H H2 r X:=by
  cases h with
  |leaf _ hf hn=>exact .refl _
  |nl=>exact .nl
  | h id cs ts CH h1 h2=>
    have hl:=h2.len;exact .h id 0 _ cs ts h1 (hz id (by simp)) (by simp) (by omega) fun k x y hx hy=>h2.ML (fun i hi=>hz i (by simp[hi])) k x y (by simpa using hx) hy
  | q id cs ts CH h1 h2=>
    exact .q id 0 cs ts h1 (hz id (by simp)) h2.len fun k x y hx hy=>h2.ML (fun i hi=>hz i (by simp[hi])) k x y hx hy
  |g cs ts CH h2=>exact .g cs ts h2.len fun k x y hx hy=>h2.ML hz k x y hx hy
  |t cs ts CH h2=>exact .t cs ts h2.len fun k x y hx hy=>h2.ML hz k x y hx hy
theorem FI.ML{H H2:HP}{cs ts:List AV}{ids:List Nat}(h:FI H cs ts ids)(hz:∀i∈ids,H2 i=none):∀(k:Nat) (x y:AV),cs[k]? =some x→ts[k]? =some y→Fz H H2 x y:=by
  cases h with
  |nil=>intro k x y hx;simp at hx
  | cons x y xs ys is js h1 h2=>
    intro k x' y' hx hy;cases k with
    |zero=>simp at hx hy;subst hx hy;exact h1.ML (fun i hi=>hz i (by simp[hi]))
    |succ k=>exact h2.ML (fun i hi=>hz i (by simp[hi])) k x' y' (by simpa using hx) (by simpa using hy)
end
def GH(n:Nat)(H:HP):HP:=fun i=>if i<n then H i else none
theorem BE{n i:Nat}{H:HP}(h:i<n):GH n H i=H i:=by simp only[GH,h,if_true]
theorem KR{n i:Nat}{H:HP}(h:n≤i):GH n H i=none:=by simp only[GH];rw[if_neg (by omega)]
theorem L7.GH{n:Nat}{H:HP}:L7 H (Go.Proofs.YtghmeeifjeafmaaGreat.GH n H):=fun j cs hj=>by
  by_cases e:j<n
  · rw[BE e]at hj;exact⟨cs,hj,rfl,fun k x y h1 h2=>by rw[h1]at h2;cases h2;exact .refl _⟩
  rw[KR (by omega)]at hj;cases hj
theorem LC.fz{n:Nat}{H:HP}{a b:Nat}{L:AV}{cs ts:List AV}(h:LC H a b L cs)(hn:n≤a)(hl:ts.length=cs.length)(hc:∀(k:Nat) (x y:AV),cs[k]? =some x→ts[k]? =some y→Fz H (GH n H) x y):Fz H (GH n H) L (.v ts.length ts):=by
  rcases h with ⟨rfl,rfl⟩|⟨id,rfl,h0,h1,h2⟩
  · rw[List.length_eq_zero_iff.1 hl];exact .nl
  rw[hl];exact .h id 0 _ cs ts h0 (KR (by omega)) (by simp) hl fun k x y hx hy=>hc k x y (by simpa using hx) hy
theorem FI.fam{H:HP}:∀{cs ts:List AV} {ids:List Nat},FI H cs ts ids→∃J:Nat→List Nat,(∀k,k<cs.length→Ow H (cs.getD k .nl) (ts.getD k .nl) (J k))∧(∀k,k<cs.length→∀i∈J k,i∈ids)∧(∀k,cs.length≤k→J k=[])∧(ids.Nodup→(∀k,(J k).Nodup)∧∀j k,j≠k→∀i∈J j,i∉J k):=by
  intro cs;induction cs with
  |nil=>intro ts ids h;exact⟨fun _=>[],by simp,by simp,by simp,by simp⟩
  | cons c cs ih=>
    intro ts ids h;cases h with
    | cons x y xs ys is js h1 h2=>
      obtain⟨J,g1,g2,g0,g3⟩:=ih h2;refine⟨fun k=>match k with|0=>is|k+1=>J k,fun k hk=>?_,fun k hk i hi=>?_,fun k hk=>?_,fun hn=>?_⟩
      · cases k with
        |zero=>simpa using h1
        |succ k=>simpa using g1 k (by simpa using hk)
      · cases k with
        |zero=>simp at hi ⊢;exact .inl hi
        |succ k=>simp at hi ⊢;exact .inr (g2 k (by simpa using hk) i hi)
      · cases k with
        |zero=>simp at hk
        |succ k=>exact g0 k (by simpa using hk)
      rw[List.nodup_append]at hn;obtain⟨n1,n2,n3⟩:=hn;obtain⟨g4,g5⟩:=g3 n2;have mem:∀k i,i∈J k→i∈js:=fun k i hi=>by
        by_cases hk:k<cs.length
        · exact g2 k hk i hi
        rw[g0 k (by omega)]at hi;cases hi
      refine⟨fun k=>?_,fun j k hjk i hi XH=>?_⟩
      · cases k with
        |zero=>exact n1
        |succ k=>exact g4 k
      cases j with
      | zero=>
        cases k with
        |zero=>exact hjk rfl
        |succ k=>exact n3 i hi i (mem k i XH) rfl
      | succ j=>
        cases k with
        |zero=>exact n3 i XH i (mem j i hi) rfl
        |succ k=>exact g5 j k (by omega) i hi XH
structure k6(lo m:Nat)(P B:AV)(X:List (List Int))(Y:List (List (List Int)))(bc:List AV)(H:HP):Prop where
  p:LC H lo m P (X.map ints)
  b:LC H lo m B bc
  bl:bc.length=Y.length
  c:∀k,k<Y.length→LC H lo m (bc.getD k .nl) ((Y.getD k []).map ints)
  pb:bk P=0∨bk P≠bk B
  pc:∀k,k<Y.length→bk (bc.getD k .nl)=0∨(bk (bc.getD k .nl)≠bk P∧bk (bc.getD k .nl)≠bk B)
  cc:∀j k,j<Y.length→k<Y.length→j≠k→bk (bc.getD j .nl)=0∨bk (bc.getD j .nl)≠bk (bc.getD k .nl)
theorem k6.AD{lo lo' m m':Nat}{P B:AV}{X:List (List Int)}{Y:List (List (List Int))}{bc:List AV}{H H':HP}(h:k6 lo m P B X Y bc H)(hk:∀j,lo≤j→j<m→H' j=H j)(hl:lo'≤lo)(hm:m≤m'):k6 lo' m' P B X Y bc H':=
  ⟨(h.p.AD hk).wide hl hm,(h.b.AD hk).wide hl hm,h.bl,fun k EX=>((h.c k EX).AD hk).wide hl hm,h.pb,h.pc,h.cc⟩
theorem LC.pos{H:HP}{a b:Nat}{L:AV}{cs:List AV}(h:LC H a b L cs)(hp:0<cs.length):∃id,L= .h id 0 cs.length∧H id=some cs∧a≤id∧id<b:=by
  rcases h with ⟨_,rfl⟩|h
  · simp at hp
  exact h
theorem k6.MK{lo m k:Nat}{P B:AV}{X:List (List Int)}{Y:List (List (List Int))}{bc:List AV}{H:HP}(h:k6 lo m P B X Y bc H)(hk:k<X.length):
    ∃p,P= .h p 0 X.length∧H p=some (X.map ints)∧(lo≤p∧p<m)∧∀(H':HP) (w:List Int) (lo' m':Nat),H' p=some (B0 (X.map ints) k [ints w])→(∀j,lo≤j→j<m→j≠p→H' j=H j)→lo'≤lo→m≤m'→k6 lo' m' P B (X.set k w) Y bc H':=by
  obtain⟨p,e,h1,h2,h3⟩:=h.p.pos (by simpa using(by omega:0<X.length));rw[List.length_map]at e;refine⟨p,e,h1,⟨h2,h3⟩,fun H' w lo' m' hp EV hl hm=>?_⟩;subst e;have hs:B0 (X.map ints) k [ints w]=(X.set k w).map ints:=by rw[BL _ _ _ (by simpa using hk),List.map_set]
  have IS:∀i,bk B=i+1→i≠p:=fun i hi e=>by
    rcases h.pb with g|g
    · simp[bk]at g
    exact g (by rw[hi,e];rfl)
  refine⟨.inr ⟨p,by simp,by rw[hp,hs],by omega,by omega⟩,?_,h.bl,fun j hj=>?_,h.pb,h.pc,h.cc⟩
  · exact(h.b.L1 (fun i hi=>EV i (by have:=h.b.bd;omega) (by have:=h.b.bd;omega) (IS i hi))).wide hl hm
  have hb:=(h.c j hj).bd;refine((h.c j hj).L1 (fun i hi=>EV i (by omega) (by omega) (fun e=>?_))).wide hl hm;rcases h.pc j hj with g|g
  · omega
  exact g.1 (by rw[hi,e];rfl)
theorem k6.Q9{lo m k l:Nat}{P B:AV}{X:List (List Int)}{Y:List (List (List Int))}{bc:List AV}{H:HP}(h:k6 lo m P B X Y bc H)(hk:k<Y.length)(hl:l<(Y.getD k []).length):
    ∃ b q,B= .h b 0 Y.length∧H b=some bc∧(lo≤b∧b<m)∧bc.getD k .nl= .h q 0 (Y.getD k []).length∧bc.getD k .j= .h q 0 (Y.getD k []).length∧H q=some ((Y.getD k []).map ints)∧(lo≤q∧q<m)∧b≠q∧
      ∀(H':HP) (w:List Int) (lo' m':Nat),H' q=some (B0 ((Y.getD k []).map ints) l [ints w])→(∀j,lo≤j→j<m→j≠q→H' j=H j)→lo'≤lo→m≤m'→k6 lo' m' P B X (Y.set k ((Y.getD k []).set l w)) bc H':=by
  obtain⟨b,e,h1,h2,h3⟩:=h.b.pos (by rw[h.bl];omega);obtain⟨q,e2,g1,g2,g3⟩:=(h.c k hk).pos (by rw[List.length_map];omega);rw[List.length_map]at e2;rw[h.bl]at e;have e3:bc.getD k .j= .h q 0 (Y.getD k []).length:=by
    rw[←e2];have:=h.bl;simp[List.getD,show k<bc.length by omega]
  have hq:=h.pc k hk;rw[e2]at hq;have J9:bk P≠q+1:=by
    rcases hq with g|g
    · simp[bk]at g
    exact fun e=>g.1 e.symm
  have NH:b≠q:=by
    rcases hq with g|g
    · simp[bk]at g
    intro e4;apply g.2;rw[e,←e4];rfl
  refine⟨b,q,e,h1,⟨h2,h3⟩,e2,e3,g1,⟨g2,g3⟩,NH,fun H' w lo' m' hp EV I6 hm=>?_⟩;have hs:B0 ((Y.getD k []).map ints) l [ints w]=((Y.getD k []).set l w).map ints:=by rw[BL _ _ _ (by simpa using hl),List.map_set]
  have Cf:(Y.set k ((Y.getD k []).set l w)).length=Y.length:=by simp
  refine⟨?_,?_,by rw[Cf];exact h.bl,fun j hj=>?_,h.pb,by rw[Cf];exact h.pc,by rw[Cf];exact h.cc⟩
  · exact(h.p.L1 (fun i hi=>EV i (by have:=h.p.bd;omega) (by have:=h.p.bd;omega) (by omega))).wide I6 hm
  · refine(h.b.L1 (fun i hi=>EV i (by have:=h.b.bd;omega) (by have:=h.b.bd;omega) ?_)).wide I6 hm;rw[e]at hi;simp only[bk]at hi;omega
  rw[Cf]at hj;by_cases Hp:j=k
  · subst Hp;rw[e2,show(Y.set j ((Y.getD j []).set l w)).getD j []=(Y.getD j []).set l w by simp[hj]];exact .inr ⟨q,by simp,by rw[hp,hs],by omega,by omega⟩
  rw[show(Y.set k ((Y.getD k []).set l w)).getD j []=Y.getD j [] by rw[List.getD_eq_getElem?_getD,List.getElem?_set_ne (by omega),←List.getD_eq_getElem?_getD]];have hb:=(h.c j hj).bd;refine((h.c j hj).L1 (fun i hi=>EV i (by omega) (by omega) (fun e4=>?_))).wide I6 hm;rcases h.cc j k hj hk Hp with g|g
  · omega
  exact g (by rw[hi,e2,e4];rfl)
theorem k6.fz{lo m n:Nat}{P B:AV}{os:List Int}{X:List (List Int)}{Y:List (List (List Int))}{bc:List AV}{H:HP}(h:k6 lo m P B X Y bc H)(hn:n≤lo):Fz H (GH n H) (.g [ints os,P,B]) (A8 os X Y):=by
  refine .g _ _ rfl fun k x y hx hy=>?_
  match k,hx,hy with
  |0,hx,hy=>cases hx;cases hy;exact .refl _
  | 1,hx,hy=>
    cases hx;cases hy;rw[GG];exact h.p.fz hn rfl fun k x y g1 g2=>by rw[g1]at g2;cases g2;exact .refl _
  | 2,hx,hy=>
    cases hx;cases hy;rw[KP];refine h.b.fz hn (by rw[List.length_map,h.bl]) fun k x y g1 g2=>?_
    have hk:k<Y.length:=by have:=(List.getElem?_eq_some_iff.1 g2).1;simpa using this
    have mZ:x=bc.getD k .nl:=by rw[List.getD_eq_getElem?_getD,g1];rfl
    have Tc:y=rows (Y.getD k []):=by
      rw[List.getElem?_map,List.getElem?_eq_getElem hk]at g2;rw[List.getD_eq_getElem?_getD,List.getElem?_eq_getElem hk];exact(Option.some.inj g2).symm
    subst mZ Tc;rw[GG];exact(h.c k hk).fz hn rfl fun k x y g1 g2=>by rw[g1]at g2;cases g2;exact .refl _
theorem Jt{H:HP}{a m:Nat}{L:AV}{ts:List AV}{ids:List Nat}{n:Nat}(h:Ow H L (.v n ts) ids)(hi:WZ L=true)(hb:∀i∈ids,a≤i∧i<m):(L= .nl∧ts=[]∧ids=[])∨∃q cs CH,L= .h q 0 cs.length∧H q=some cs∧ts.length=cs.length∧ids=q::CH∧FI H cs ts CH∧a≤q∧q<m:=by
  rcases h.VA _ _ rfl with ⟨rfl,_⟩|⟨rfl,rfl,rfl,rfl⟩|⟨id,cs,CH,rfl,rfl,g1,g2,g3⟩
  · cases hi
  · exact .inl ⟨rfl,rfl,rfl⟩
  have:=hb id (by simp);exact .inr ⟨id,cs,CH,by rw[g2],g1,g3.len,rfl,g3,this.1,this.2⟩
theorem s8{H:HP}{a m:Nat}{L:AV}{W:List (List Int)}{ids:List Nat}(h:Ow H L (rows W) ids)(hi:WZ L=true)(hb:∀i∈ids,a≤i∧i<m)(CY:ids.Nodup):
    ∃y:List AV×List Nat,FI H y.1 (W.map ints) y.2∧(∀i,bk L=i+1→H i=some y.1∧i∈ids∧i∉y.2)∧(∀i∈y.2,i∈ids)∧∀H2:HP,(∀i,bk L=i+1→H2 i=some (W.map ints))→LC H2 a m L (W.map ints):=by
  rw[GG]at h;rcases Jt h hi hb with ⟨rfl,h1,rfl⟩|⟨q,cs,js,rfl,h1,h2,rfl,h3,h4,h5⟩
  · refine⟨([],[]),?_,by simp[bk],by simp,fun H2 _=>?_⟩
    · rw[h1];exact .nil
    rw[h1];exact .nil
  have hq:=List.nodup_cons.1 CY;refine⟨(cs,js),h3,fun i e=>?_,fun i hi=>by simp[hi],fun H2 hz=> .inr ⟨q,by rw[h2],hz q rfl,h4,h5⟩⟩;simp only[bk]at e;obtain rfl:i=q:=by omega
  exact⟨h1,by simp,hq.1⟩
open Classical in

theorem OZ.rg{a m:Nat}{H:HP}{r P B:AV}{os:List Int}{X:List (List Int)}{Y:List (List (List Int))}{cp cb:List AV}(h:OZ a m H r P B os X Y cp cb):
    ∃H2,L7 H H2∧Fz H H2 (.g [r,P,B]) (.g [ints os,P,B])∧k6 a m P B X Y cb H2∧∀j,(j<a∨m≤j)→H2 j=H j:=by
  obtain⟨⟨i0,i1,i2,⟨h0,h1,h2⟩,CY,WG⟩,hP,hB,cD⟩:=h;have RV:∀i∈i0,a≤i∧i<m:=fun i hi=>WG i (by simp[hi])
  have MX:∀i∈i1,a≤i∧i<m:=fun i hi=>WG i (by simp[hi])
  have LF:∀i∈i2,a≤i∧i<m:=fun i hi=>WG i (by simp[hi])
  rw[List.nodup_append]at CY;obtain⟨n0,n12,d0⟩:=CY;rw[List.nodup_append]at n12;obtain⟨n1,n2,d12⟩:=n12;have d01:∀i∈i0,i∉i1:=fun i hi XH=>d0 i hi i (by simp[XH]) rfl
  have d02:∀i∈i0,i∉i2:=fun i hi XH=>d0 i hi i (by simp[XH]) rfl
  have s9:∀i∈i1,i∉i2:=fun i hi XH=>d12 i hi i XH rfl
  obtain⟨⟨cP,jP⟩,p1,p2,p3,p4⟩:=s8 h1 hP.WZ MX n1;dsimp only at p1 p2 p3;obtain⟨j2,o1,o2,o3,o4⟩:∃j2,FI H cb (Y.map rows) j2∧(∀i,bk B=i+1→H i=some cb∧i∈i2∧i∉j2)∧(∀i∈j2,i∈i2)∧j2.Nodup:=by
    rw[KP]at h2;rcases h2.lc hB with ⟨rfl,rfl,_,e,rfl⟩|⟨b,CH,rfl,g1,_,rfl,g2⟩
    · refine⟨[],by rw[e];exact .nil,by simp[bk],by simp,by simp⟩
    · have hq:=List.nodup_cons.1 n2;refine⟨CH,g2,fun i e=>?_,fun i hi=>by simp[hi],hq.2⟩;simp only[bk]at e;obtain rfl:i=b:=by omega
      exact⟨g1,by simp,hq.1⟩
  have E6:cb.length=Y.length:=by have:=o1.len;simpa using this.symm
  obtain⟨J,f1,f2,_,f3⟩:=o1.fam;obtain⟨f4,f5⟩:=f3 o4;have YG:∀k,∃y:List AV×List Nat,k<Y.length→(FI H y.1 ((Y.getD k []).map ints) y.2∧(∀i,bk (cb.getD k .nl)=i+1→H i=some y.1∧i∈J k∧i∉y.2)∧(∀i∈y.2,i∈J k)∧∀H2:HP,(∀i,bk (cb.getD k .nl)=i+1→H2 i=some ((Y.getD k []).map ints))→LC H2 a m (cb.getD k .nl) ((Y.getD k []).map ints)):=fun k=>by
    by_cases hk:k<Y.length
    · have g:=f1 k (by omega);rw[show(Y.map rows).getD k .nl=rows (Y.getD k []) by simp[hk]]at g;obtain⟨y,hy⟩:=s8 g (cD _ (by rw[List.getD_eq_getElem?_getD,List.getElem?_eq_getElem (show k<cb.length by omega)];exact List.getElem_mem _)) (fun i hi=>LF i (o3 i (f2 k (by omega) i hi))) (f4 k);exact⟨y,fun _=>hy⟩
    · exact⟨([],[]),fun h=>absurd h hk⟩
  obtain⟨c,hc⟩:=Classical.axiomOfChoice YG;have q1:∀k i,k<Y.length→bk (cb.getD k .nl)=i+1→i∈J k∧i∈j2:=fun k i hk e=>⟨((hc k hk).2.1 i e).2.1,f2 k (by omega) i ((hc k hk).2.1 i e).2.1⟩
  have mX:bk P=0∨bk P≠bk B:=by
    by_cases e:bk P=0
    · exact .inl e
    · refine .inr fun e2=>?_
      have g1:=(p2 (bk P-1) (by omega)).2.1;have g2:=(o2 (bk P-1) (by omega)).2.1;exact s9 _ g1 g2
  have Uq:∀k,k<Y.length→bk (cb.getD k .nl)=0∨(bk (cb.getD k .nl)≠bk P∧bk (cb.getD k .nl)≠bk B):=fun k hk=>by
    by_cases e:bk (cb.getD k .nl)=0
    · exact .inl e
    · have g:=q1 k (bk (cb.getD k .nl)-1) hk (by omega);refine .inr ⟨fun e2=>?_,fun e2=>?_⟩
      · exact s9 _ (p2 (bk (cb.getD k .nl)-1) (by omega)).2.1 (o3 _ g.2)
      · exact(o2 (bk (cb.getD k .nl)-1) (by omega)).2.2 g.2
  have Eb:∀j k,j<Y.length→k<Y.length→j≠k→bk (cb.getD j .nl)=0∨bk (cb.getD j .nl)≠bk (cb.getD k .nl):=fun j k hj hk hjk=>by
    by_cases e:bk (cb.getD j .nl)=0
    · exact .inl e
    · refine .inr fun e2=>?_
      have g1:=q1 j (bk (cb.getD j .nl)-1) hj (by omega);have g2:=q1 k (bk (cb.getD j .nl)-1) hk (by omega);exact f5 j k hjk _ g1.1 g2.1
  obtain⟨H2,MB⟩:∃H2:HP,H2=fun j=>if bk P=j+1 then some (X.map ints)else if bk B=j+1 then some cb else if h:∃k,k<Y.length∧bk (cb.getD k .nl)=j+1 then some ((Y.getD (Classical.choose h) []).map ints)else if j∈i0++(i1++i2)then none else H j:=⟨_,rfl⟩
  have eP:∀i,bk P=i+1→H2 i=some (X.map ints):=fun i e=>by rw[MB];simp only[e,if_true]
  have eB:∀i,bk B=i+1→H2 i=some cb:=fun i e=>by
    rw[MB];dsimp only;rw[if_neg (by omega),if_pos e]
  have eq:∀k i,k<Y.length→bk (cb.getD k .nl)=i+1→H2 i=some ((Y.getD k []).map ints):=fun k i hk e=>by
    have g:=Uq k hk;have hex:∃k,k<Y.length∧bk (cb.getD k .nl)=i+1:=⟨k,hk,e⟩;rw[MB];dsimp only;rw[if_neg (by omega),if_neg (by omega),dif_pos hex];have hs:=Classical.choose_spec hex;have:Classical.choose hex=k:=by
      apply Classical.byContradiction;intro AL;rcases Eb _ k hs.1 hk AL with g|g
      · omega
      · exact g (by rw[hs.2,e])
    rw[this]
  have eN:∀i,i∈i0++(i1++i2)→bk P≠i+1→bk B≠i+1→(∀k,k<Y.length→bk (cb.getD k .nl)≠i+1)→H2 i=none:=fun i hi g1 g2 g3=>by
    rw[MB];dsimp only;rw[if_neg g1,if_neg g2,dif_neg (fun ⟨k,hk,e⟩=>g3 k hk e),if_pos hi]
  have eO:∀i,i∉i0++(i1++i2)→H2 i=H i:=fun i hi=>by
    rw[MB];dsimp only;rw[if_neg (fun e=>hi (by simp[(p2 i e).2.1])),if_neg (fun e=>hi (by simp[(o2 i e).2.1])),dif_neg (fun ⟨k,hk,e⟩=>hi (by simp[o3 i (q1 k i hk e).2])),if_neg hi]
  have z0:∀i∈i0,H2 i=none:=fun i hi=>eN i (by simp[hi]) (fun e=>d01 i hi (p2 i e).2.1) (fun e=>d02 i hi (o2 i e).2.1) (fun k hk e=>d02 i hi (o3 i (q1 k i hk e).2))
  have zP:∀i∈jP,H2 i=none:=fun i hi=>eN i (by simp[p3 i hi]) (fun e=>(p2 i e).2.2 hi) (fun e=>s9 i (p3 i hi) (o2 i e).2.1) (fun k hk e=>s9 i (p3 i hi) (o3 i (q1 k i hk e).2))
  have zJ:∀k,k<Y.length→∀i∈(c k).2,H2 i=none:=fun k hk i hi=>by
    have g1:=(hc k hk).2.2.1 i hi;have g2:=f2 k (by omega) i g1;refine eN i (by simp[o3 i g2]) (fun e=>s9 i (p2 i e).2.1 (o3 i g2)) (fun e=>(o2 i e).2.2 g2) (fun k' GA e=>?_);by_cases ekk:k'=k
    · subst ekk;exact((hc k' GA).2.1 i e).2.2 hi
    · exact f5 k' k ekk i (q1 k' i GA e).1 g1
  refine⟨H2,fun i CX hi=>?_,?_,⟨p4 H2 eP,?_,E6,fun k hk=>(hc k hk).2.2.2 H2 (fun i e=>eq k i hk e),mX,Uq,Eb⟩,fun j hj=>eO j (fun hm=>?_)⟩
  · by_cases e1:bk P=i+1
    · rw[eP i e1]at hi;cases hi;exact⟨cP,(p2 i e1).1,by rw[←p1.len],fun k x y hx hy=>p1.ML zP k x y hx hy⟩
    · by_cases e2:bk B=i+1
      · rw[eB i e2]at hi;cases hi;exact⟨cb,(o2 i e2).1,rfl,fun k x y hx hy=>by rw[hx]at hy;cases hy;exact .refl _⟩
      · by_cases e3:∃k,k<Y.length∧bk (cb.getD k .nl)=i+1
        · obtain⟨k,hk,e⟩:=e3;rw[eq k i hk e]at hi;cases hi;have g:=hc k hk;exact⟨(c k).1,(g.2.1 i e).1,by rw[←g.1.len],fun j x y hx hy=>g.1.ML (zJ k hk) j x y hx hy⟩
        · by_cases e4:i∈i0++(i1++i2)
          · rw[eN i e4 e1 e2 (fun k hk e=>e3 ⟨k,hk,e⟩)]at hi;cases hi
          · rw[eO i e4]at hi;exact⟨CX,hi,rfl,fun k x y hx hy=>by rw[hx]at hy;cases hy;exact .refl _⟩
  · refine .g _ _ rfl fun k x y hx hy=>?_
    match k,hx,hy with
    |0,hx,hy=>cases hx;cases hy;exact h0.ML z0
    |1,hx,hy=>cases hx;cases hy;exact .refl _
    |2,hx,hy=>cases hx;cases hy;exact .refl _
  · rcases hB with ⟨rfl,rfl⟩|⟨b,rfl,g0,g1,g2⟩
    · exact .nil
    · exact .inr ⟨b,rfl,eB b rfl,g1,g2⟩
  · have:=WG j hm;omega
theorem OZ.ids{a m:Nat}{H:HP}{r P B:AV}{os:List Int}{X:List (List Int)}{Y:List (List (List Int))}{cp cb:List AV}(h:OZ a m H r P B os X Y cp cb):
    ∃Z ids,Own a m H (.g [r,P,B]) Z ids∧∀H',(∀i∈ids,H' i=H i)→OZ a m H' r P B os X Y cp cb:=by
  obtain⟨⟨i0,i1,i2,⟨h0,h1,h2⟩,CY,WG⟩,hP,hB,cD⟩:=h;refine⟨_,i0++(i1++(i2++[])),⟨.g _ _ _ (.cons _ _ _ _ _ _ h0 (.cons _ _ _ _ _ _ h1 (.cons _ _ _ _ _ _ h2 .nil))),by simpa using CY,by simpa using WG⟩,fun H' hk=>?_⟩;have b1:=h1;have b2:=h2;rw[GG]at b1;rw[KP]at b2;exact⟨⟨i0,i1,i2,⟨h0.AD fun i hi=>hk i (by simp[hi]),h1.AD fun i hi=>hk i (by simp[hi]),h2.AD fun i hi=>hk i (by simp[hi])⟩,CY,WG⟩,hP.L1 (fun i hi=>hk i (by simp[b1.Y6 hP hi])),hB.L1 (fun i hi=>hk i (by simp[b2.Y6 hB hi])),cD⟩
def rgK(nx:Nat)(H:HP)(os:List Int)(X:List (List Int))(Y:List (List (List Int))):Nat→HP→AV→Prop:=fun nx' H' r=>∃P B bc,r= .g [ints os,P,B]∧k6 nx nx' P B X Y bc H'∧∀i,i<nx→H' i=H i
theorem AC.rg{P:Program}{f:FuncId}{nx:Nat}{H:HP}{xs ts:List AV}{os:List Int}{X:List (List Int)}{Y:List (List (List Int))}
    (h:AC P f nx BN ts (fun nx' H' r=>∃r0 P B cp cb,r= .g [r0,P,B]∧OZ nx nx' H' r0 P B os X Y cp cb)) (hv:WK H xs ts):AC P f nx H xs (rgK nx H os X Y):=by
  refine(AC.s7 h (fun n H0 r ⟨r0,P,B,cp,cb,e,hW⟩=>?_) hv).Up fun nx' H' r ⟨⟨r0,P,B,cp,cb,e,hW⟩,CK⟩=>?_
  · obtain⟨Z,ids,ho,hk⟩:=hW.ids;exact⟨Z,ids,by rw[e];exact ho,fun H' EX=>⟨r0,P,B,cp,cb,e,hk H' EX⟩⟩
  obtain⟨H2,g1,g2,g3,g4⟩:=hW.rg;exact⟨H2,_,g1,by rw[e];exact g2,P,B,cb,rfl,g3,fun i hi=>(g4 i (.inl hi)).trans (CK i hi)⟩
end Go.Proofs.YtghmeeifjeafmaaGreat
