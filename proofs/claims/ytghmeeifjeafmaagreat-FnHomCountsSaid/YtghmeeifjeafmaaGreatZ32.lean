import Derived.Test.YtghmeeifjeafmaaGreatZ31
set_option linter.unusedVariables false
set_option linter.unusedSimpArgs false
namespace Go.Proofs.YtghmeeifjeafmaaGreat
open Nat (reduceAdd reduceSub reduceGT reduceEqDiff reduceMul)
theorem map_take1 {α:Type} (f:α→AV) {L:List α} {k:Nat} {d:α} (h:k<L.length):(L.map f).take (k+1)=(L.map f).take k++[f (L.getD k d)]:=by
  rw[List.take_succ_eq_append_getElem (by simpa using h)]
  simp[h]
theorem spec_l01Own2_w (pw:List (List Int)) (hpw:rowslen pw):∀nx,AC Tryz.prog 65 nx noH [rows pw] (fun nx' H' r=>∃cs,OLi nx nx' H' r cs (pw.map ints)):=by
 have hl:pw.length≤1048576:=hpw.n
 have hr:∀k,k<pw.length→(pw.getD k []).length≤1048576:=fun k _=>getD_mem (P:=fun x:List Int=>x.length≤1048576) hpw.v (by simp) k
 intro nx
 refine AC.intro' envOk Tryz.func65 rfl (by kernel_rfl) Tryz.ntmps65 Tryz.results65 (fun cX=>?_)
 refine AW.sr envOk (fun N hN=>?_);simp-dsimp-implicitDefEqProofs (disch:=omega)only[go_sem,rows,gd_r];refine hN _ ?_;try clear hN N
 refine AW.sr envOk (fun N hN=>?_);simp-dsimp-implicitDefEqProofs (disch:=omega)only[go_sem,rows,gd_r];refine hN _ ?_;try clear hN N
 refine AW.seq (fun N1 hN1=>?_);refine AW.sr envOk (fun N hN=>?_);simp-dsimp-implicitDefEqProofs (disch:=omega)only[go_sem,rows,gd_r];refine hN _ ?_;try clear hN N
 refine AW.block ?_;refine AW.loopN (α:=Nat×HP×AV×List AV) (fun x=>sl 21 [(0,rows pw),(3,x.2.2.1),(4,.i .i64 x.1)]) (fun x=>x.2.1) (fun x m=>(x.1≤pw.length∧nx≤m)∧OLi nx m x.2.1 x.2.2.1 x.2.2.2 ((pw.map ints).take x.1)) (fun x=>pw.length-x.1) ((0,upd noH (nx+1) (some []),.h (nx+1) 0 0,[])) ?_ ?_ (fun _ _ h=>h) ?_
 ·exact⟨⟨by simp,by first|omega|(simp only;omega)|(dsimp only;omega)⟩,by simpa using OLi.empty (upd_same _ _ _) (by omega) (by first|omega|(simp only;omega)|(dsimp only;omega))⟩
 ·simp(disch:=omega) [wks,wkA,sl,rows]
 skip
 rintro⟨k,G,L,cs⟩ m ⟨⟨hk,hm⟩,hL⟩
 simp-dsimp-implicitDefEqProofs (disch:=omega)only[go_sem];dsimp only at hk hm hL ⊢
 have hLC:=hL.1
 have hLb:=hLC.bd
 have hLo:=hLC.one
 have hLl:=hLC.len
 have hcl:=hL.len
 rw[List.length_take,List.length_map]at hcl
 refine AW.seq (fun N2 hN2=>?_);refine AW.sr envOk (fun N hN=>?_);simp-dsimp-implicitDefEqProofs (disch:=omega)only[go_sem,rows,gd_r];refine hN _ ?_;try clear hN N
 refine AW.cond rfl (fun h1=>?_) (fun h1=>?_)
 ·try simp only[cn]at h1
  have hk2:k<pw.length:=by omega
  have hcl2:cs.length=k:=by omega
  refine AW.skip ?_;simp only[thn,blk];refine hN2 _ ?_;try clear hN2 N2
  refine AW.seq (fun N3 hN3=>?_);refine AW.block ?_;refine AW.regionL envOk ?_;simp-dsimp-implicitDefEqProofs (disch:=omega)only[go_sem,rows,gd_r];refine AC.own (own_o (pw.getD k []) (by have:=hr k hk2;omega)) (.cons (.refl _) .nil) ?_
  intro m3 H3 r3 ids3 hm3 hH3 hown3
  obtain⟨u4,u5,u6⟩:=hown3.1.slice
  have hl3:LC H3 nx m L cs:=hLC.keep (fun i i1 i2=>hH3 i (by omega))
  have u7:=one_list u5
  try simp-dsimp-implicitDefEqProofs (disch:=(first|omega|((repeat refine LC.upd (by omega) ?_);assumption))) only[go_sem,u4,u5,u6,u7,hLl,hcl2,apst_LC (a:=nx) (b:=m) (L:=L) (cs:=cs)]
  refine hN3 _ ?_;try clear hN3 N3
  refine AW.nameH (fun G3 hG3=>?_);dsimp only at hG3
  refine AW.regionL envOk ?_;simp-dsimp-implicitDefEqProofs (disch:=omega)only[go_sem,rows,gd_r];refine⟨(k+1,G3,.h (m+4+7) 0 (k+1),cs++[r3]),?_,fun _ _ h=>h,?_,?_⟩
  ·simp(disch:=omega) [wks,wkA,sl,w64,rows]
  ·refine⟨⟨by first|omega|(simp only;omega)|(dsimp only;omega),by first|omega|(simp only;omega)|(dsimp only;omega)⟩,?_⟩
   dsimp only
   rw[map_take1 ints hk2 (d:=[])]
   have hpu:=hL.push (H':=G3) (id:=m+4+7) (m':=m3) (hown3.1.keep (fun i hi=>by have:=hown3.2.2 i hi;rw[←hG3];simp(disch:=omega)only[upd_ne,dl_ne])) hown3.2.1 (fun i hi=>by have:=hown3.2.2 i hi;omega) (by rw[←hG3];simp(disch:=omega)only[upd_same]) (by omega) (fun hi=>by have:=hown3.2.2 _ hi;omega) (by omega) (fun i i1 i2 i3=>by rw[←hG3];simp(disch:=omega)only[upd_ne,dl_ne];exact hH3 i (by omega))
   rw[hcl2]at hpu
   exact hpu.keep (fun _ _ _=>rfl) (by first|omega|(simp only;omega)|(dsimp only;omega))
  first|omega|(simp only;omega)
 try simp only[cn]at h1
 have hke:k=pw.length:=by omega
 rw[List.take_of_length_le (by rw[List.length_map];omega)]at hL
 refine AW.exit ?_;simp only[thn,blk,if_true];refine hN1 _ ?_;try clear hN1 N1
 refine AW.sr envOk (fun N hN=>?_);simp-dsimp-implicitDefEqProofs (disch:=omega)only[go_sem,rows,gd_r];refine hN _ ?_;try clear hN N
 refine AW.ret ?_;simp-dsimp-implicitDefEqProofs (disch:=omega)only[go_sem];exact⟨cs,hL.keep (fun _ _ _=>rfl) (by omega)⟩
theorem own_h (a:List Int) (ha:a.length≤1099511627776) (nx:Nat) (H:HP):AC Tryz.prog 104 nx H [ints a] (fun nx' H' r=>isH r=true∧(∃ids,Own nx nx' H' r (ints a) ids)∧∀i,i<nx→H' i=H i):=by
  refine(spec_l01Own_ok a ha nx H).mono ?_
  rintro nx' H' r ⟨id,rfl,h1,h2,rfl⟩
  exact⟨rfl,⟨_,Own.ints (by rw[upd_same,map_ivs]) rfl h1 h2⟩,fun i hi=>upd_ne _ _ (by omega)⟩
theorem mkO {N:St→Prop} {C:Nat→HP→AV→AV→List Nat→List AV→Prop} {S:Nat→HP→AV→AV→St} {G:Prop} (h1:(∀m H r P ids cs,C m H r P ids cs→N (S m H r P))→G) (h2:∀m H r P ids cs,C m H r P ids cs→N (S m H r P)):G:=h1 h2
theorem mkL {N:St→Prop} {C:Nat→HP→AV→List AV→Prop} {S:Nat→HP→AV→St} {G:Prop} (h1:(∀m H L cs,C m H L cs→N (S m H L))→G) (h2:∀m H L cs,C m H L cs→N (S m H L)):G:=h1 h2
set_option maxHeartbeats 4000000 in
theorem spec_l07Own_x (os:List Int) (pw:List (List Int)) (cj:List (List (List Int))) (h0:os.length≤1048576) (h1:rowslen pw) (h2:cubeslen cj):∀nx,AC Tryz.prog 64 nx noH [prs os pw cj] (fun nx' H' r=>∃r0 P B cp cb,r= .g [r0,P,B]∧PgW nx nx' H' r0 P B os pw cj cp cb∧isH r0=true):=by
 intro nx
 refine AC.intro' envOk Tryz.func64 rfl (by kernel_rfl) Tryz.ntmps64 Tryz.results64 (fun cX=>?_)
 refine AW.sr envOk (fun N hN=>?_);simp-dsimp-implicitDefEqProofs (disch:=omega)only[go_sem,prs];refine hN _ ?_;try clear hN N
 refine AW.freezeQ 1 nx [ints os,rows pw,cubes cj] rfl (by simp(disch:=omega)only[upd_ne,upd_same]) ?_
 simp-dsimp-implicitDefEqProofs (disch:=omega)only[go_sem];refine AW.seq (fun N hN=>?_);apply mkO (N:=N)
 ·intro key
  refine AW.drawT envOk (by kernel_rfl) [true,true,false,true,true,false,false,false,false] (.br 2 (.br 5 (.br 6 (.br 7 (.br 8 .nil .nil) .nil) (.br 7 (.br 6 (.br 8 .nil .nil) .nil) .nil)) (.br 7 (.br 5 (.br 6 (.br 8 .nil .nil) .nil) .nil) .nil)) (.br 7 (.br 2 (.br 5 (.br 6 (.br 8 .nil .nil) .nil) .nil) .nil) .nil)) (by kernel_rfl) ?_
  simp-dsimp-implicitDefEqProofs (disch:=omega)only[go_sem,prs];refine⟨?_,?_⟩
  ·skip
   refine(own_h os (by omega) _ _).mono2 ?_
   rintro m0 H0 r0 hm0 ⟨hih0,⟨ids0,hown0⟩,hH0⟩
   obtain⟨u1,u2,u3⟩:=hown0.1.slice
   try simp-dsimp-implicitDefEqProofs (disch:=omega)only[go_sem,prs,u1,u2,u3]
   refine⟨?_,?_⟩
   ·skip
    refine(AC.frame (spec_l01Own2_w pw h1 _)).mono2 ?_
    rintro m1 H1 P hm1 ⟨G0,⟨cp,hOP⟩,hlow,hhigh⟩
    have hOP1:=hOP.keep (H':=H1) (fun i i1 i2=>hhigh i i1) (Nat.le_refl _)
    obtain⟨v1,v2⟩:=hOP.1.cells
    have v3:=hOP.1.one
    have hown1:=hown0.keep (H':=H1) (fun i i1 i2=>hlow i i2) (Nat.le_refl _) (Nat.le_refl _)
    have hb:H1 (nx+1)=some [.nl,.nl,.nl]:=by rw[hlow _ (by omega),hH0 _ (by omega)];simp(disch:=omega)only[upd_ne,upd_same]
    try simp-dsimp-implicitDefEqProofs (disch:=omega)only[go_sem,prs,u1,u2,u3,v1,v2,v3,and_self]
    exact key m1 H1 r0 P ids0 cp (And.intro hb (Exists.intro m0 (And.intro (And.intro (And.intro hm0 hih0) hm1) (And.intro hown1 hOP1))))
   skip
   refine(AC.frame (spec_l01Own2_w pw h1 _)).mono2 ?_
   rintro m1 H1 P hm1 ⟨G0,⟨cp,hOP⟩,hlow,hhigh⟩
   have hOP1:=hOP.keep (H':=H1) (fun i i1 i2=>hhigh i i1) (Nat.le_refl _)
   obtain⟨v1,v2⟩:=hOP.1.cells
   have v3:=hOP.1.one
   have hown1:=hown0.keep (H':=H1) (fun i i1 i2=>by rw[hlow i i2];simp(disch:=omega)only[upd_ne]) (Nat.le_refl _) (Nat.le_refl _)
   have hb:H1 (nx+1)=some [.nl,.nl,.nl]:=by rw[hlow _ (by omega)];simp(disch:=omega)only[upd_ne];rw[hH0 _ (by omega)];simp(disch:=omega)only[upd_ne,upd_same]
   have hc:H1 (nx+2+7)=some [.nl,.nl,.nl]:=by rw[hlow _ (by omega)];simp(disch:=omega)only[upd_same]
   try simp-dsimp-implicitDefEqProofs (disch:=omega)only[go_sem,prs,u1,u2,u3,v1,v2,v3,and_self,hc]
   exact key m1 H1 r0 P ids0 cp (And.intro hb (Exists.intro m0 (And.intro (And.intro (And.intro hm0 hih0) hm1) (And.intro hown1 hOP1))))
  skip
  refine(own_h os (by omega) _ _).mono2 ?_
  rintro m0 H0 r0 hm0 ⟨hih0,⟨ids0,hown0⟩,hH0⟩
  obtain⟨u1,u2,u3⟩:=hown0.1.slice
  try simp-dsimp-implicitDefEqProofs (disch:=omega)only[go_sem,prs,u1,u2,u3]
  refine(AC.frame (spec_l01Own2_w pw h1 _)).mono2 ?_
  rintro m1 H1 P hm1 ⟨G0,⟨cp,hOP⟩,hlow,hhigh⟩
  have hOP1:=hOP.keep (H':=H1) (fun i i1 i2=>hhigh i i1) (Nat.le_refl _)
  obtain⟨v1,v2⟩:=hOP.1.cells
  have v3:=hOP.1.one
  have hown1:=hown0.keep (H':=H1) (fun i i1 i2=>hlow i i2) (Nat.le_refl _) (Nat.le_refl _)
  have hb:H1 (nx+1)=some [.nl,.nl,.nl]:=by rw[hlow _ (by omega),hH0 _ (by omega)];simp(disch:=omega)only[upd_ne,upd_same]
  have hc:H1 (nx+2+7)=some [.nl,.nl,.nl]:=by rw[hlow _ (by omega),hH0 _ (by omega)];simp(disch:=omega)only[upd_ne,upd_same]
  try simp-dsimp-implicitDefEqProofs (disch:=omega)only[go_sem,prs,u1,u2,u3,v1,v2,v3,and_self,hc]
  exact key m1 H1 r0 P ids0 cp (And.intro hb (Exists.intro m0 (And.intro (And.intro (And.intro hm0 hih0) hm1) (And.intro hown1 hOP1))))
 intro m1 H1 r0 P ids0 cp hC
 obtain⟨hb,m0,⟨⟨hm0,hih0⟩,hm1⟩,hown1,hOP1⟩:=hC
 refine hN _ ?_;try clear hN N
 refine AW.seq (fun N1 hN1=>?_);refine AW.sr envOk (fun N hN=>?_);simp-dsimp-implicitDefEqProofs (disch:=omega)only[go_sem,prs];refine hN _ ?_;try clear hN N
 refine AW.block ?_;refine AW.nameH (fun G1 hG1=>?_);dsimp only at hG1
 have hq0:G1 (nx+9)=some [r0,P,.nl]:=by rw[←hG1];simp(disch:=omega)only[upd_same]
 have hx0:G1 (nx+1)=some [.nl,.nl,.nl]:=by rw[←hG1,←hb];simp(disch:=omega)only[upd_ne]
 obtain⟨hlp0,ids1,w1,w2,w3⟩:=hOP1
 have hlp1:LC G1 m0 m1 P cp:=hlp0.keep (fun i i1 i2=>by rw[←hG1];simp(disch:=omega)only[upd_ne])
 have hpg0:PgO (nx+11) m1 G1 r0 P .nl os pw []:=by
  refine⟨ids0,ids1,[],⟨hown1.1.keep (fun i hi=>by have:=hown1.2.2 i hi;rw[←hG1];simp(disch:=omega)only[upd_ne]),?_,.nl⟩,?_,?_⟩
  ·rw[rows_v];exact w1.keep (fun i hi=>by have:=w3 i hi;rw[←hG1];simp(disch:=omega)only[upd_ne])
  ·rw[List.append_nil,List.nodup_append]
   exact⟨hown1.2.1,w2,fun x hx y hy e=>by have:=hown1.2.2 x hx;have:=w3 y hy;omega⟩
  intro i hi
  rw[List.append_nil,List.mem_append]at hi
  rcases hi with hi|hi
  ·have:=hown1.2.2 i hi;omega
  have:=w3 i hi;omega
 have hcl:cj.length≤1048576:=h2.n
 refine AW.loopN (α:=Nat×HP×AV×List AV) (fun x=>sl 31 [(1,.p 0 [ints os,rows pw,cubes cj]),(2,.q (nx+1) 0),(3,.q (nx+9) 0),(4,.i .i64 x.1)]) (fun x=>x.2.1) (fun x m=>(x.1≤cj.length∧m1≤m)∧(x.2.1 (nx+9)=some [r0,P,x.2.2.1]∧x.2.1 (nx+1)=some [.nl,.nl,.nl])∧PgO (nx+11) m x.2.1 r0 P x.2.2.1 os pw (cj.take x.1)∧LC x.2.1 (nx+11) m P cp∧(LC x.2.1 (nx+11) m x.2.2.1 x.2.2.2∧x.2.2.2.length=x.1)∧∀y∈x.2.2.2,isH y=true) (fun x=>cj.length-x.1) ((0,G1,.nl,[])) ?_ ?_ (fun _ _ h=>h) ?_
 ·exact⟨⟨by simp,by first|omega|(simp only;omega)|(dsimp only;omega)⟩,⟨hq0,hx0⟩,by simpa using hpg0.keep (fun _ _ _=>rfl) (by first|omega|(simp only;omega)|(dsimp only;omega)),hlp1.wide (by omega) (by first|omega|(simp only;omega)|(dsimp only;omega)),⟨.nil,rfl⟩,by simp⟩
 ·simp(disch:=omega) [wks,wkA,sl,w64,cubes]
 skip
 rintro⟨k,G,B,cb⟩ m ⟨⟨hk,hm⟩,⟨hq,hx⟩,hpg,hlp,⟨hlb,hcb⟩,hih⟩
 simp-dsimp-implicitDefEqProofs (disch:=omega)only[go_sem];dsimp only at hk hm hq hx hpg hlp hlb hcb hih ⊢
 have hPb:=hlp.bd
 have hPo:=hlp.one
 have hBb:=hlb.bd
 have hBo:=hlb.one
 have hBl:=hlb.len
 refine AW.seq (fun N2 hN2=>?_);refine AW.sr envOk (fun N hN=>?_);simp-dsimp-implicitDefEqProofs (disch:=omega)only[go_sem,prs,cubes];refine hN _ ?_;try clear hN N
 refine AW.cond rfl (fun h1=>?_) (fun h1=>?_)
 ·try simp only[cn]at h1
  have hkn:k<cj.length:=by omega
  have hrow:rowslen (cj.getD k []):=getD_mem h2.v .nil k
  refine AW.skip ?_;simp only[thn,blk];refine hN2 _ ?_;try clear hN2 N2
  refine AW.seq (fun N3 hN3=>?_);refine AW.block ?_;refine AW.name (fun N hN=>?_);apply mkL (N:=N)
  ·intro key
   refine AW.drawT envOk (by kernel_rfl) [true,false,true,true,true,true,true,false,false,false,true,false] (.br 1 (.br 7 (.br 8 (.br 9 (.br 11 .nil .nil) .nil) .nil) .nil) (.br 7 (.br 1 (.br 8 (.br 9 (.br 11 .nil .nil) .nil) .nil) (.br 8 (.br 1 (.br 9 (.br 11 .nil .nil) .nil) .nil) .nil)) .nil)) (by kernel_rfl) ?_
   simp-dsimp-implicitDefEqProofs (disch:=omega)only[go_sem,prs,↓hrF_t,↓hrF_f,↓hrF_n,cubes,gd_c,hq,hBo,hBl,hcb,dl_ne]
   refine⟨?_,?_⟩
   ·skip
    refine(AC.frame (spec_l01Own2_w (cj.getD k []) hrow _)).mono2 ?_
    rintro m3 H3 L hm3 ⟨G0,⟨cl,hOL⟩,hlow,hhigh⟩
    have hOL1:=hOL.keep (H':=H3) (fun i i1 i2=>hhigh i i1) (Nat.le_refl _)
    obtain⟨v1,v2⟩:=hOL.1.cells
    have v3:=one_list hOL.1.one
    have hlb3:LC H3 (nx+11) m B cb:=hlb.keep (fun i i1 i2=>hlow i (by omega))
    have hq3:H3 (nx+9)=some [r0,P,B]:=(hlow _ (by omega)).trans hq
    try simp-dsimp-implicitDefEqProofs (disch:=(first|omega|((repeat refine LC.upd (by omega) ?_);assumption))) only[go_sem,prs,v1,v2,v3,hq3,hBo,hBl,hcb,dl_ne,one_list hBo,and_self,apst_LC (a:=nx+11) (b:=m) (L:=B) (cs:=cb)]
    exact key m3 H3 L cl (And.intro hm3 (And.intro hlow hOL1))
   skip
   refine(AC.frame (spec_l01Own2_w (cj.getD k []) hrow _)).mono2 ?_
   rintro m3 H3 L hm3 ⟨G0,⟨cl,hOL⟩,hlow,hhigh⟩
   have hOL1:=hOL.keep (H':=H3) (fun i i1 i2=>hhigh i i1) (Nat.le_refl _)
   obtain⟨v1,v2⟩:=hOL.1.cells
   have v3:=one_list hOL.1.one
   have hlb3:LC H3 (nx+11) m B cb:=hlb.keep (fun i i1 i2=>hlow i (by omega))
   have hq3:H3 (nx+9)=some [r0,P,B]:=(hlow _ (by omega)).trans hq
   try simp-dsimp-implicitDefEqProofs (disch:=(first|omega|((repeat refine LC.upd (by omega) ?_);assumption))) only[go_sem,prs,v1,v2,v3,hq3,hBo,hBl,hcb,dl_ne,one_list hBo,and_self,apst_LC (a:=nx+11) (b:=m) (L:=B) (cs:=cb)]
   exact key m3 H3 L cl (And.intro hm3 (And.intro hlow hOL1))
  intro m3 H3 L cl hC
  obtain⟨hm3,hlow,hLC,idsL,o1,o2,o3⟩:=hC
  refine hN _ ?_;simp only[thn,blk];refine hN3 _ ?_;try clear hN3 N3
  refine AW.nameH (fun G5 hG5=>?_);dsimp only at hG5
  have hG5q:G5 (nx+9)=some [r0,P,.h (m+5+9) 0 (k+1)]:=by rw[←hG5];simp(disch:=omega)only[upd_same]
  have hG5n:G5 (m+5+9)=some (cb++[L]):=by rw[←hG5];simp(disch:=omega)only[upd_same,upd_ne]
  have hG5l:∀i,i<m→i≠nx+9→bk B≠i+1→G5 i=G i:=fun i i1 i2 i3=>by rw[←hG5];simp(disch:=omega)only[upd_ne,dl_ne];exact hlow i (by omega)
  have hG5h:∀i,m+5+12≤i→G5 i=H3 i:=fun i i1=>by rw[←hG5];simp(disch:=omega)only[upd_ne,dl_ne]
  have hPB:=hpg.ne hlp hlb
  have hpg5:PgO (nx+11) m3 G5 r0 P (.h (m+5+9) 0 (k+1)) os pw (cj.take (k+1)):=by
   have ht:cj.take (k+1)=cj.take k++[cj.getD k []]:=by
    rw[List.take_succ_eq_append_getElem hkn];simp[hkn]
   rw[ht]
   have:=hpg.pushB (m':=m3) (x:=cj.getD k []) (r1:=L) (is:=idsL) (H':=G5) (id:=m+5+9) hlb (by rw[rows_v];exact o1.keep (fun i hi=>by have:=o3 i hi;exact hG5h i (by omega))) o2 (fun i hi=>by have:=o3 i hi;omega) hG5n (by omega) (fun hi=>by have:=o3 _ hi;omega) (by omega) (fun i i1 i2 i3=>hG5l i (by omega) (by omega) i3)
   rwa [hcb]at this
  refine AW.regionL envOk ?_;simp-dsimp-implicitDefEqProofs (disch:=omega)only[go_sem,prs];refine⟨(k+1,G5,.h (m+5+9) 0 (k+1),cb++[L]),?_,fun _ _ h=>h,?_,?_⟩
  ·simp(disch:=omega) [wks,wkA,sl,w64,ints,rows,cubes,prs,w64]<;>omega
  ·refine⟨⟨by first|omega|(simp only;omega)|(dsimp only;omega),by first|omega|(simp only;omega)|(dsimp only;omega)⟩,⟨hG5q,?_⟩,hpg5.keep (fun _ _ _=>rfl) (by first|omega|(simp only;omega)|(dsimp only;omega)),?_,⟨.mk hG5n (by simp[hcb]) (by omega) (by first|omega|(simp only;omega)|(dsimp only;omega)),by simp[hcb]⟩,isH_app hih hLC.isH⟩
   ·dsimp only;rw[hG5l _ (by omega) (by omega) (by omega)];exact hx
   exact(hlp.keep1 (fun i i1=>hG5l i (by omega) (by omega) (by omega))).wide (Nat.le_refl _) (by first|omega|(simp only;omega)|(dsimp only;omega))
  first|omega|(simp only;omega)
 try simp only[cn]at h1
 have hke:k=cj.length:=by omega
 rw[List.take_of_length_le (by omega)]at hpg
 refine AW.exit ?_;simp only[thn,blk,if_true];refine hN1 _ ?_;try clear hN1 N1
 refine AW.sr envOk (fun N hN=>?_);simp-dsimp-implicitDefEqProofs (disch:=omega)only[go_sem,prs,hq,hx,(hown1.1.slice).2.1,hPo,hBo,Bool.and_self]
 refine hN _ ?_;try clear hN N
 refine AW.ret ?_;simp-dsimp-implicitDefEqProofs (disch:=omega)only[go_sem];exact⟨r0,P,B,cp,cb,rfl,PgW.wide (PgW.keep ⟨hpg,hlp,hlb,hih⟩ (fun i i1 i2=>by simp(disch:=omega)only[upd_ne]) (Nat.le_refl _)) (by omega) (by omega),hih0⟩
theorem spec_l07Own_w (os:List Int) (pw:List (List Int)) (cj:List (List (List Int))) (h0:os.length≤1048576) (h1:rowslen pw) (h2:cubeslen cj) (nx:Nat):AC Tryz.prog 64 nx noH [prs os pw cj] (fun nx' H' r=>∃r0 P B cp cb,r= .g [r0,P,B]∧PgW nx nx' H' r0 P B os pw cj cp cb):=(spec_l07Own_x os pw cj h0 h1 h2 nx).mono fun _ _ _ ⟨r0,P,B,cp,cb,e,h,_⟩=>⟨r0,P,B,cp,cb,e,h⟩
end Go.Proofs.YtghmeeifjeafmaaGreat
