import Derived.Test.YtghmeeifjeafmaaGreatZ40
import Derived.Test.YtghmeeifjeafmaaGreatZ46
set_option linter.unusedVariables false
set_option linter.unusedSimpArgs false
namespace Go.Proofs.YtghmeeifjeafmaaGreat
open Nat (reduceAdd reduceSub reduceGT reduceEqDiff reduceMul)
def grpQ (r:AV):Prop:=∃os X Y,r=prs os X Y∧presOk os X Y
theorem ShB.prlen {N:Nat} {os:List Int} {X:List (List Int)} {Y:List (List (List Int))} (h:ShB N os X Y) (hN:N≤1000):Go.Proofs.YtghmeeifjeafmaaGreat.prlen os X Y:=by
  obtain⟨o,p,c,r,pl,cl,ob⟩:=h
  have hYl:∀k,(Y.getD k []).length≤1000:=fun k=>by
    by_cases hk:k<os.length
    · have:=r k hk;omega
    rw[List.getD_eq_getElem?_getD,List.getElem?_eq_none (by omega)];simp
  refine⟨by omega,ringlen.of ⟨by omega,fun x hx=>by have:=pl x hx;omega⟩ ⟨by omega,fun y hy=>⟨?_,fun x hx=>by have:=cl y hy x hx;omega⟩⟩⟩
  obtain⟨k,hk,rfl⟩:=List.mem_iff_getElem.1 hy
  have:=hYl k
  simp[hk]at this
  omega
theorem presOk_two:presOk [2] (trP [(2:Int)].length) (trC [(2:Int)].length):=presC_ok (s:=([2],trP 1,trC 1)) (by kernel_rfl)
theorem mkG {N:St→Prop} {C:Nat→HP→AV→List Int→List (List Int)→List (List (List Int))→Prop} {S:Nat→HP→AV→List Int→List (List Int)→List (List (List Int))→St} {G:Prop} (h1:(∀m H r o X Y,C m H r o X Y→N (S m H r o X Y))→G) (h2:∀m H r o X Y,C m H r o X Y→N (S m H r o X Y)):G:=h1 h2
set_option maxHeartbeats 4000000 in
theorem spec_l07Group_o {bs:List Int} {sid:Nat} {H:HP} (hg:srcOk bs sid H) (lim:Int) (nx:Nat) (hsn:sid<nx):AC Tryz.prog 75 nx H [.q sid 0,.i .i64 lim] (fun nx' H' r=>∃r2,Fz H' (blw nx H') r r2∧grpQ r2∧srcOk bs sid H'∧∀i,i<nx→i≠sid→H' i=H i):=by
 refine AC.introx envOk Tryz.func75 rfl (by kernel_rfl) Tryz.ntmps75 Tryz.results75 (fun hfr cX=>?_)
 refine AW.sr envOk (fun N hN=>?_);simp-dsimp-implicitDefEqProofs (disch:=omega)only[go_sem,prs];refine hN _ ?_;try clear hN N
 refine AW.seq (fun N1 hN1=>?_);refine AW.nameH (fun G0 hG0=>?_);dsimp only at hG0
 have hl:∀i,i<nx→i≠sid→G0 i=H i:=fun i hi _=>by rw[←hG0,upd_ne _ _ (by omega)]
 have h0:G0 nx=some [.nl,.nl,.nl]:=by rw[←hG0,upd_same]
 replace hg:srcOk bs sid G0:=hg.keep (by rw[←hG0,upd_ne _ _ (by omega)])
 clear hG0
 simp-dsimp-implicitDefEqProofs (disch:=omega)only[go_sem];refine AW.sr envOk (fun N hN=>?_);simp-dsimp-implicitDefEqProofs (disch:=omega)only[go_sem,prs];refine hN _ ?_;try clear hN N
 refine AW.block ?_;refine AW.loopN (α:=Nat×HP) (fun x=>sl 32 [(0,.q sid 0),(1,.i .i64 lim),(4,.q nx 0),(5,.i .i64 x.1)]) (fun x=>x.2) (fun x m=>(x.1≤12∧nx+1≤m)∧srcOk bs sid x.2∧(∀i,i<nx→i≠sid→x.2 i=H i)∧x.2 nx=some [.nl,.nl,.nl]) (fun x=>12-x.1) ((0,G0)) ?_ ?_ (fun _ _ h=>h) ?_
 ·exact⟨⟨by simp,by first|omega|(simp only;omega)|(dsimp only;omega)⟩,hg,hl,h0⟩
 ·simp(disch:=omega) [wks,wkA,sl,w64,ints,rows,cubes,w64,prs]<;>omega
 skip
 rintro⟨k,G⟩ m ⟨⟨hk,hm⟩,hg,hl,h0⟩
 simp-dsimp-implicitDefEqProofs (disch:=omega)only[go_sem];dsimp only at hk hm hg hl h0 ⊢
 refine AW.seq (fun N2 hN2=>?_);refine AW.sr envOk (fun N hN=>?_);simp-dsimp-implicitDefEqProofs (disch:=omega)only[go_sem,prs];refine hN _ ?_;try clear hN N
 refine AW.cond rfl (fun h1=>?_) (fun h1=>?_)
 ·try simp only[cn]at h1
  refine AW.skip ?_;simp only[thn,blk];refine hN2 _ ?_;try clear hN2 N2
  refine AW.seq (fun N3 hN3=>?_);refine AW.block ?_;refine AW.sr envOk (fun N hN=>?_);simp-dsimp-implicitDefEqProofs (disch:=omega)only[go_sem,prs];refine(spec_l07Family_s hg _ (by omega)).mono2 ?_
  rintro m1 H1 r1 hm1 ⟨⟨os,X,Y,rfl,hsh⟩,hg1,hk1⟩
  try simp-dsimp-implicitDefEqProofs (disch:=omega)only[go_sem,prs]
  refine hN _ ?_;try clear hN N
  refine AW.seq (fun N4 hN4=>?_);refine AW.nameH (fun G1 hG1=>?_);dsimp only at hG1
  have hl1:∀i,i<nx→i≠sid→G1 i=H i:=fun i hi hne=>by rw[←hG1,upd_ne _ _ (by omega),hk1 i (by omega) hne];exact hl i hi hne
  have h01:G1 nx=some [.nl,.nl,.nl]:=by rw[←hG1,upd_ne _ _ (by omega),hk1 nx (by omega) (by omega)];exact h0
  have hb1:G1 (m+2+2)=some [ints os,rows X,cubes Y]:=by rw[←hG1,upd_same]
  have hgs:srcOk bs sid G1:=hg1.keep (by rw[←hG1,upd_ne _ _ (by omega)])
  obtain⟨bx,hbxe⟩:∃bx,m+2+2=bx:=⟨_,rfl⟩
  rw[hbxe]at hb1 ⊢
  simp-dsimp-implicitDefEqProofs (disch:=omega)only[go_sem];refine AW.sr envOk (fun N hN=>?_);simp-dsimp-implicitDefEqProofs (disch:=omega)only[go_sem,prs];refine(spec_l01Next_s hgs 3 (by omega) _).mono2 ?_
  rintro m2 H2 r2 hm2 ⟨⟨x2,rfl,hx2⟩,hg2,hk2⟩
  have hl2:∀i,i<nx→i≠sid→H2 i=H i:=fun i hi hne=>(hk2 i (by omega) hne).trans (hl1 i hi hne)
  have h02:=(hk2 nx (by omega) (by omega)).trans h01
  have hb2:=(hk2 bx (by omega) (by omega)).trans hb1
  try simp-dsimp-implicitDefEqProofs (disch:=omega)only[go_sem,prs]
  refine hN _ ?_;try clear hN N
  refine AW.cond rfl (fun h2=>?_) (fun h2=>?_)
  ·try simp only[cn]at h2
   refine AW.name (fun N hN=>?_);apply mkG (N:=N)
   ·intro key
    refine AW.drawT envOk (by kernel_rfl) [false,true,false,false,false] (.br 0 (.br 2 (.br 3 (.br 4 .nil .nil) .nil) .nil) (.br 2 (.br 0 (.br 3 (.br 4 .nil .nil) .nil) .nil) .nil)) (by kernel_rfl) ?_
    simp-dsimp-implicitDefEqProofs (disch:=omega)only[go_sem,prs];rw[hb2]
    try simp-dsimp-implicitDefEqProofs (disch:=omega)only[go_sem,prs]
    refine⟨?_,?_⟩
    all_goals
     refine(spec_l07Family_s hg2 _ (by omega)).mono2 ?_
     rintro m3 H3 r3 hm3 ⟨⟨os3,X3,Y3,rfl,hsh3⟩,hg3,hk3⟩
     have hb3:=(hk3 bx (by omega) (by omega)).trans hb2
     try simp-dsimp-implicitDefEqProofs (disch:=omega)only[go_sem,prs,hb3]
     refine(spec_l07Both_z os os3 X X3 Y Y3 hsh hsh3 _ _).mono2 ?_
     rintro m4 H4 r4 hm4 ⟨⟨os4,X4,Y4,rfl,hsh4⟩,hk4⟩
     have hb4:=(hk4 bx (by omega)).trans hb3
     try simp-dsimp-implicitDefEqProofs (disch:=omega)only[go_sem,prs,hb4]
     have hk5:∀i,i<m2→i≠sid→H4 i=H2 i:=fun i hi hne=>(hk4 i (by omega)).trans (hk3 i (by omega) hne)
     generalize (AV.g [ints os3,rows X3,cubes Y3])=r9
     exact key m4 H4 r9 os4 X4 Y4 (And.intro (show m2+5≤m4 by omega) (And.intro hsh4 (And.intro (hg3.keep (hk4 sid (by omega))) hk5)))
   intro m4 H4 r4 os4 X4 Y4 hC
   obtain⟨hm4,hsh4,hg4,hk4⟩:=hC
   refine hN _ ?_;simp only[thn,blk];refine hN4 _ ?_;try clear hN4 N4
   refine AW.nameH (fun G7 hG7=>?_);dsimp only at hG7
   obtain⟨os7,X7,Y7,hs7,hb7,hg7,hl7,h07⟩:∃os X Y,ShB 24 os X Y∧G7 bx=some [ints os,rows X,cubes Y]∧srcOk bs sid G7∧(∀i,i<nx→i≠sid→G7 i=H i)∧G7 nx=some [.nl,.nl,.nl]:=by
    first
    |exact⟨os4,X4,Y4,hsh4,by rw[←hG7,upd_same],hg4.keep (by rw[←hG7,upd_ne _ _ (by omega)]),fun i hi hne=>by rw[←hG7,upd_ne _ _ (by omega),hk4 i (by omega) hne];exact hl2 i hi hne,by rw[←hG7,upd_ne _ _ (by omega),hk4 nx (by omega) (by omega)];exact h02⟩
    |exact⟨os,X,Y,hsh.more (by omega),by rw[←hG7];exact hb2,by rw[←hG7];exact hg2,fun i hi hne=>by rw[←hG7];exact hl2 i hi hne,by rw[←hG7];exact h02⟩
   simp-dsimp-implicitDefEqProofs (disch:=omega)only[go_sem];refine AW.sr envOk (fun N hN=>?_);simp-dsimp-implicitDefEqProofs (disch:=omega)only[go_sem,prs,hb7];refine AC.pure (.of (spec_IsPresentation_ok os7 X7 Y7 (hs7.prlen (by omega)))) ?_;try simp-dsimp-implicitDefEqProofs (disch:=omega)only[go_sem,prs]
   refine gopB.mk' (fun h3=>?_) (fun h3=>?_)
   ·try simp only[cn]at h3
    try simp-dsimp-implicitDefEqProofs (disch:=omega)only[go_sem,prs,hb7]
    try simp-dsimp-implicitDefEqProofs (disch:=omega)only[go_sem,prs]
    refine AC.pure (.of (spec_l07Product_ok os7 h3.1.1 h3.2.1)) ?_;try simp-dsimp-implicitDefEqProofs (disch:=omega)only[go_sem,prs]
    refine hN _ ?_;try clear hN N
    refine AW.cond rfl (fun h4=>?_) (fun h4=>?_)
    ·try simp only[cn]at h4
     refine AW.sr envOk (fun N hN=>?_);simp-dsimp-implicitDefEqProofs (disch:=omega)only[go_sem,prs,hb7,h07];refine hN _ ?_;try clear hN N
     refine AW.ret ?_;simp-dsimp-implicitDefEqProofs (disch:=omega)only[go_sem];exact⟨_,fun _ _ h=>h,_,.refl _,⟨os7,X7,Y7,rfl,h3⟩,hg7.keep (upd_ne _ _ (by omega)),fun i hi hne=>(upd_ne _ _ (by omega)).trans (hl7 i hi hne)⟩
    try simp only[cn]at h4
    refine AW.skip ?_;simp only[thn,blk];refine hN3 _ ?_;try clear hN3 N3
    refine AW.regionL envOk ?_;simp-dsimp-implicitDefEqProofs (disch:=omega)only[go_sem,prs];refine⟨(k+1,G7),?_,fun _ _ h=>h,?_,?_⟩
    ·simp(disch:=omega) [wks,wkA,sl,w64,ints,rows,cubes,w64,prs]<;>omega
    ·first|exact⟨⟨by first|omega|(simp only;omega)|(dsimp only;omega),by first|omega|(simp only;omega)|(dsimp only;omega)⟩,hg7,hl7,h07⟩|exact⟨by first|omega|(simp only;omega)|(dsimp only;omega),hg7,hl7,h07⟩
    first|omega|(simp only;omega)
   try simp only[cn]at h3
   try simp-dsimp-implicitDefEqProofs (disch:=omega)only[go_sem,prs]
   refine hN _ ?_;try clear hN N
   refine AW.condF rfl ?_;refine AW.skip ?_;simp only[thn,blk];refine hN3 _ ?_;try clear hN3 N3
   refine AW.regionL envOk ?_;simp-dsimp-implicitDefEqProofs (disch:=omega)only[go_sem,prs];refine⟨(k+1,G7),?_,fun _ _ h=>h,?_,?_⟩
   ·simp(disch:=omega) [wks,wkA,sl,w64,ints,rows,cubes,w64,prs]<;>omega
   ·first|exact⟨⟨by first|omega|(simp only;omega)|(dsimp only;omega),by first|omega|(simp only;omega)|(dsimp only;omega)⟩,hg7,hl7,h07⟩|exact⟨by first|omega|(simp only;omega)|(dsimp only;omega),hg7,hl7,h07⟩
   first|omega|(simp only;omega)
  try simp only[cn]at h2
  refine AW.skip ?_;simp only[thn,blk];refine hN4 _ ?_;try clear hN4 N4
  refine AW.nameH (fun G7 hG7=>?_);dsimp only at hG7
  obtain⟨os7,X7,Y7,hs7,hb7,hg7,hl7,h07⟩:∃os X Y,ShB 24 os X Y∧G7 bx=some [ints os,rows X,cubes Y]∧srcOk bs sid G7∧(∀i,i<nx→i≠sid→G7 i=H i)∧G7 nx=some [.nl,.nl,.nl]:=by
   first
   |exact⟨os4,X4,Y4,hsh4,by rw[←hG7,upd_same],hg4.keep (by rw[←hG7,upd_ne _ _ (by omega)]),fun i hi hne=>by rw[←hG7,upd_ne _ _ (by omega),hk4 i (by omega) hne];exact hl2 i hi hne,by rw[←hG7,upd_ne _ _ (by omega),hk4 nx (by omega) (by omega)];exact h02⟩
   |exact⟨os,X,Y,hsh.more (by omega),by rw[←hG7];exact hb2,by rw[←hG7];exact hg2,fun i hi hne=>by rw[←hG7];exact hl2 i hi hne,by rw[←hG7];exact h02⟩
  simp-dsimp-implicitDefEqProofs (disch:=omega)only[go_sem];refine AW.sr envOk (fun N hN=>?_);simp-dsimp-implicitDefEqProofs (disch:=omega)only[go_sem,prs,hb7];refine AC.pure (.of (spec_IsPresentation_ok os7 X7 Y7 (hs7.prlen (by omega)))) ?_;try simp-dsimp-implicitDefEqProofs (disch:=omega)only[go_sem,prs]
  refine gopB.mk' (fun h5=>?_) (fun h5=>?_)
  ·try simp only[cn]at h5
   try simp-dsimp-implicitDefEqProofs (disch:=omega)only[go_sem,prs,hb7]
   try simp-dsimp-implicitDefEqProofs (disch:=omega)only[go_sem,prs]
   refine AC.pure (.of (spec_l07Product_ok os7 h5.1.1 h5.2.1)) ?_;try simp-dsimp-implicitDefEqProofs (disch:=omega)only[go_sem,prs]
   refine hN _ ?_;try clear hN N
   refine AW.cond rfl (fun h6=>?_) (fun h6=>?_)
   ·try simp only[cn]at h6
    refine AW.sr envOk (fun N hN=>?_);simp-dsimp-implicitDefEqProofs (disch:=omega)only[go_sem,prs,hb7,h07];refine hN _ ?_;try clear hN N
    refine AW.ret ?_;simp-dsimp-implicitDefEqProofs (disch:=omega)only[go_sem];exact⟨_,fun _ _ h=>h,_,.refl _,⟨os7,X7,Y7,rfl,h5⟩,hg7.keep (upd_ne _ _ (by omega)),fun i hi hne=>(upd_ne _ _ (by omega)).trans (hl7 i hi hne)⟩
   try simp only[cn]at h6
   refine AW.skip ?_;simp only[thn,blk];refine hN3 _ ?_;try clear hN3 N3
   refine AW.regionL envOk ?_;simp-dsimp-implicitDefEqProofs (disch:=omega)only[go_sem,prs];refine⟨(k+1,G7),?_,fun _ _ h=>h,?_,?_⟩
   ·simp(disch:=omega) [wks,wkA,sl,w64,ints,rows,cubes,w64,prs]<;>omega
   ·first|exact⟨⟨by first|omega|(simp only;omega)|(dsimp only;omega),by first|omega|(simp only;omega)|(dsimp only;omega)⟩,hg7,hl7,h07⟩|exact⟨by first|omega|(simp only;omega)|(dsimp only;omega),hg7,hl7,h07⟩
   first|omega|(simp only;omega)
  try simp only[cn]at h5
  try simp-dsimp-implicitDefEqProofs (disch:=omega)only[go_sem,prs]
  refine hN _ ?_;try clear hN N
  refine AW.condF rfl ?_;refine AW.skip ?_;simp only[thn,blk];refine hN3 _ ?_;try clear hN3 N3
  refine AW.regionL envOk ?_;simp-dsimp-implicitDefEqProofs (disch:=omega)only[go_sem,prs];refine⟨(k+1,G7),?_,fun _ _ h=>h,?_,?_⟩
  ·simp(disch:=omega) [wks,wkA,sl,w64,ints,rows,cubes,w64,prs]<;>omega
  ·first|exact⟨⟨by first|omega|(simp only;omega)|(dsimp only;omega),by first|omega|(simp only;omega)|(dsimp only;omega)⟩,hg7,hl7,h07⟩|exact⟨by first|omega|(simp only;omega)|(dsimp only;omega),hg7,hl7,h07⟩
  first|omega|(simp only;omega)
 try simp only[cn]at h1
 refine AW.exit ?_;simp only[thn,blk,if_true];refine hN1 _ ?_;try clear hN1 N1
 refine AW.sr envOk (fun N hN=>?_);simp-dsimp-implicitDefEqProofs (disch:=omega)only[go_sem,prs];refine(spec_l07Trivial_rg [2] (by simp) _ (.cons (vw_own (os:=[2]) (upd_same _ _ _) rfl) .nil)).mono2 ?_
 intro m9 H9 r9 hm9 hrg
 obtain⟨P,B,bc,rfl,hP1,hB1,hlow9,hbx⟩:=BxP.start (N:=12) (bx:=nx) hrg (by simp) (by omega) (fun x hx=>by simp at hx;omega) (by omega)
 have h09:=(hlow9 nx (by omega)).trans ((upd_ne _ _ (by omega)).trans h0)
 have hg9:srcOk bs sid H9:=hg.keep ((hlow9 sid (by omega)).trans (upd_ne _ _ (by omega)))
 have hl9:∀i,i<nx→i≠sid→H9 i=H i:=fun i hi hne=>(hlow9 i (by omega)).trans ((upd_ne _ _ (by omega)).trans (hl i hi hne))
 try simp-dsimp-implicitDefEqProofs (disch:=omega)only[go_sem,hP1,hB1,ints,Bool.and_true,h09]
 refine hN _ ?_;try clear hN N
 refine AW.ret ?_;simp-dsimp-implicitDefEqProofs (disch:=omega)only[go_sem];exact⟨_,fun _ _ h=>h,_,hbx.fz (fun _ _=>rfl) (by omega),⟨[2],_,_,rfl,presOk_two⟩,hg9.keep (upd_ne _ _ (by omega)),fun i hi hne=>(upd_ne _ _ (by omega)).trans (hl9 i hi hne)⟩
theorem spec_l07Group_s {bs:List Int} {sid:Nat} {H:HP} (hg:srcOk bs sid H) (lim:Int) (nx:Nat) (hsn:sid<nx):AC Tryz.prog 75 nx H [.q sid 0,.i .i64 lim] (sK bs sid nx H grpQ):=AC.zs hsn (spec_l07Group_o hg lim nx hsn)
theorem PgO.ids {a m:Nat} {H:HP} {r P B:AV} {os:List Int} {X:List (List Int)} {Y:List (List (List Int))} (h:PgO a m H r P B os X Y):
    ∃Z ids,Own a m H (.g [r,P,B]) Z ids∧∀H',(∀i∈ids,H' i=H i)→PgO a m H' r P B os X Y:=by
  obtain⟨i0,i1,i2,⟨h0,h1,h2⟩,hnd,hbd⟩:=h
  exact⟨_,i0++(i1++(i2++[])),⟨.g _ _ _ (.cons _ _ _ _ _ _ h0 (.cons _ _ _ _ _ _ h1 (.cons _ _ _ _ _ _ h2 .nil))),by simpa using hnd,by simpa using hbd⟩,fun H' hk=>
    ⟨i0,i1,i2,⟨h0.keep fun i hi=>hk i (by simp[hi]),h1.keep fun i hi=>hk i (by simp[hi]),h2.keep fun i hi=>hk i (by simp[hi])⟩,hnd,hbd⟩⟩
theorem spec_l07Own_b (os:List Int) (X:List (List Int)) (Y:List (List (List Int))) (h0:os.length≤1048576) (h1:rowslen X) (h2:cubeslen Y) (nx:Nat) {H:HP} {xs:List AV} (hv:Vws H xs [prs os X Y]):AC Tryz.prog 64 nx H xs (fun nx' H' r=>∃r0 P B,r= .g [r0,P,B]∧PgO nx nx' H' r0 P B os X Y∧isH r0=true∧∀i,i<nx→H' i=H i):=by
  refine(AC.ownQ ((spec_l07Own_x os X Y h0 h1 h2 nx).mono (Q':=fun nx' H' r=>∃r0 P B,r= .g [r0,P,B]∧PgO nx nx' H' r0 P B os X Y∧isH r0=true) fun nx' H' r ⟨r0,P,B,cp,cb,e,hW,hi⟩=>⟨r0,P,B,e,hW.1,hi⟩) (fun n H0 r ⟨r0,P,B,e,hW,hi⟩=>?_) hv).mono fun nx' H' r ⟨⟨r0,P,B,e,hW,hi⟩,hlow⟩=>⟨r0,P,B,e,hW,hi,hlow⟩
  obtain⟨Z,ids,ho,hk⟩:=hW.ids
  exact⟨Z,ids,by rw[e];exact ho,fun H' hk2=>⟨r0,P,B,e,hk H' hk2,hi⟩⟩
open Classical in

theorem PgO.fz0 {a m:Nat} {H:HP} {r P B:AV} {os:List Int} {X:List (List Int)} {Y:List (List (List Int))} (h:PgO a m H r P B os X Y):
    ∃H2,FzH H H2∧Fz H H2 (.g [r,P,B]) (.g [ints os,P,B])∧PgO a m H2 .nl P B [] X Y∧∀j,(j<a∨m≤j)→H2 j=H j:=by
  obtain⟨i0,i1,i2,⟨h0,h1,h2⟩,h3,h4⟩:=h
  obtain⟨H2,hH2⟩:∃H2:HP,H2=fun j=>if j∈i0 then none else H j:=⟨_,rfl⟩
  have z0:∀i∈i0,H2 i=none:=fun i hi=>by rw[hH2];simp[hi]
  have z1:∀i,i∉i0→H2 i=H i:=fun i hi=>by rw[hH2];simp[hi]
  simp only[List.nodup_append,List.mem_append]at h3
  refine⟨H2,fun i cs' hi=>?_,?_,⟨[],i1,i2,⟨.nl,h1.keep fun i hi=>z1 i (by grind),h2.keep fun i hi=>z1 i (by grind)⟩,by simp only[List.nil_append,List.nodup_append];grind,fun i hi=>h4 i (by simp only[List.nil_append,List.mem_append]at hi ⊢;exact .inr hi)⟩,fun j hj=>z1 j fun hm=>by have:=h4 j (by simp[hm]);omega⟩
  · by_cases e:i∈i0
    · rw[z0 i e]at hi;cases hi
    · rw[z1 i e]at hi
      exact⟨cs',hi,rfl,fun k x y hx hy=>by rw[hx]at hy;cases hy;exact .refl _⟩
  · refine .g _ _ rfl fun k x y hx hy=>?_
    match k,hx,hy with
    |0,hx,hy=>cases hx;cases hy;exact h0.fzTo z0
    |1,hx,hy=>cases hx;cases hy;exact .refl _
    |2,hx,hy=>cases hx;cases hy;exact .refl _
theorem spec_l07Own_f (os:List Int) (X:List (List Int)) (Y:List (List (List Int))) (h0:os.length≤1048576) (h1:rowslen X) (h2:cubeslen Y) (nx:Nat) {H:HP} {xs:List AV} (hv:Vws H xs [prs os X Y]):AC Tryz.prog 64 nx H xs (fun nx' H' r=>∃P B,r= .g [ints os,P,B]∧PgO nx nx' H' .nl P B [] X Y∧∀i,i<nx→H' i=H i):=by
  refine(spec_l07Own_b os X Y h0 h1 h2 nx hv).frz fun nx' H' r ⟨r0,P,B,e,hW,hi,hlow⟩=>?_
  obtain⟨H2,g1,g2,g3,g4⟩:=hW.fz0
  exact⟨H2,_,g1,by rw[e];exact g2,P,B,rfl,g3,fun i hi=>(g4 i (.inl hi)).trans (hlow i hi)⟩
theorem PgO.fz2 {a m n:Nat} {H:HP} {P B:AV} {os:List Int} {X:List (List Int)} {Y:List (List (List Int))} (h:PgO a m H .nl P B [] X Y) (hn:n≤a):Fz H (blw n H) (.g [ints os,P,B]) (prs os X Y):=by
  obtain⟨i0,i1,i2,⟨h0,h1,h2⟩,h3,h4⟩:=h
  have hz:∀i∈i0++(i1++i2),blw n H i=none:=fun i hi=>blw_ge (by have:=h4 i hi;omega)
  refine .g _ _ rfl fun k x y hx hy=>?_
  match k,hx,hy with
  |0,hx,hy=>cases hx;cases hy;exact .refl _
  |1,hx,hy=>cases hx;cases hy;exact h1.fzTo fun i hi=>hz i (by simp[hi])
  |2,hx,hy=>cases hx;cases hy;exact h2.fzTo fun i hi=>hz i (by simp[hi])
structure drwP (os:List Int) (X:List (List Int)) (Y:List (List (List Int))):Prop where
  o:os.length≤8
  p:rowslen X
  c:cubeslen Y
  b:∀x∈os,-1000≤x∧x≤1000
def drwQ (r:AV):Prop:=∃os X Y,r=prs os X Y∧drwP os X Y
theorem drwP.pl {os:List Int} {X:List (List Int)} {Y:List (List (List Int))} (h:drwP os X Y):prlen os X Y:=⟨by have:=h.o;omega,ringlen.of h.p h.c⟩
theorem ShB.drw {N:Nat} {os:List Int} {X:List (List Int)} {Y:List (List (List Int))} (h:ShB N os X Y) (hN:N≤1000) (h8:os.length≤8):drwP os X Y:=by
  obtain⟨o,p,c,r,pl,cl,ob⟩:=h
  have hYl:∀k,(Y.getD k []).length≤1000:=fun k=>by
    by_cases hk:k<os.length
    · have:=r k hk;omega
    rw[List.getD_eq_getElem?_getD,List.getElem?_eq_none (by omega)];simp
  refine⟨h8,⟨by omega,fun x hx=>by have:=pl x hx;omega⟩,⟨by omega,fun y hy=>⟨?_,fun x hx=>by have:=cl y hy x hx;omega⟩⟩,ob⟩
  obtain⟨k,hk,rfl⟩:=List.mem_iff_getElem.1 hy
  have:=hYl k
  simp[hk]at this
  omega
theorem presOk.drw {os:List Int} {X:List (List Int)} {Y:List (List (List Int))} (h:presOk os X Y):drwP os X Y:=h.shB.drw (by omega) (by have:=h.1.1;omega)
theorem rowslen.row {W:List (List Int)} (h:rowslen W) (k:Nat):(W.getD k []).length≤1048576:=getD_all (p:=fun x:List Int=>x.length≤1048576) h.v (by simp) k
theorem cubeslen.row {W:List (List (List Int))} (h:cubeslen W) (k:Nat):rowslen (W.getD k []):=getD_all (p:=rowslen) h.v .nil k
end Go.Proofs.YtghmeeifjeafmaaGreat
