import Derived.Test.YtghmeeifjeafmaaGreatZ49
set_option linter.unusedVariables false
set_option linter.unusedSimpArgs false
namespace Go.Proofs.YtghmeeifjeafmaaGreat
open Nat (reduceAdd reduceSub reduceGT reduceEqDiff reduceMul)
theorem own_v (a:List Int) (ha:a.length≤1048576) (nx:Nat) {H:HP} {xs:List AV} (hv:Vws H xs [ints a]):AC Tryz.prog 104 nx H xs (fun nx' H' r=>(∃id,r= .h id 0 a.length∧nx≤id∧id<nx'∧H' id=some (a.map (.i .i64)))∧∀i,i<nx→H' i=H i):=by
  refine AC.ownQ ((spec_l01Own_ok a (by omega) nx noH).mono (Q':=fun nx' H' r=>∃id,r= .h id 0 a.length∧nx≤id∧id<nx'∧H' id=some (a.map (.i .i64))) ?_) (fun n H0 r ⟨id,e,h1,h2,h3⟩=>?_) hv
  · rintro nx' H' r ⟨id,rfl,h1,h2,rfl⟩
    exact⟨id,rfl,h1,h2,by rw[upd_same,map_ivs]⟩
  subst e
  exact⟨ints a,[id],Own.ints h3 rfl h1 h2,fun H' hk=>⟨id,rfl,h1,h2,by rw[hk id (by simp)];exact h3⟩⟩
theorem own2_v (W:List (List Int)) (hW:rowslen W) (nx:Nat) {H:HP} {xs:List AV} (hv:Vws H xs [rows W]):AC Tryz.prog 65 nx H xs (fun nx' H' r=>(∃cs,OLi nx nx' H' r cs (W.map ints))∧∀i,i<nx→H' i=H i):=by
  refine AC.ownQ (spec_l01Own2_w W hW nx) (fun n H0 r ⟨cs,hLC,ids,h1,h2,h3⟩=>?_) hv
  refine⟨_,ids,⟨h1,h2,h3⟩,fun H' hk=>⟨cs,hLC.keep1 fun i hi=>hk i (h1.bk_in hLC hi),ids,h1.keep hk,h2,h3⟩⟩
theorem spec_l07Trivial_b (os:List Int) (hn:os.length≤1000) (nx:Nat) {H:HP} {xs:List AV} (hv:Vws H xs [ints os]):AC Tryz.prog 118 nx H xs (fun nx' H' r=>(∃r0 P B,r= .g [r0,P,B]∧PgO nx nx' H' r0 P B os (trP os.length) (trC os.length))∧∀i,i<nx→H' i=H i):=by
  refine AC.ownQ ((spec_l07Trivial_w os hn nx).mono (Q':=fun nx' H' r=>∃r0 P B,r= .g [r0,P,B]∧PgO nx nx' H' r0 P B os (trP os.length) (trC os.length)) fun nx' H' r ⟨r0,P,B,cp,cb,e,hW⟩=>⟨r0,P,B,e,hW.1⟩) (fun n H0 r ⟨r0,P,B,e,hW⟩=>?_) hv
  obtain⟨Z,ids,ho,hk⟩:=hW.ids
  exact⟨Z,ids,by rw[e];exact ho,fun H' hk2=>⟨r0,P,B,e,hk H' hk2⟩⟩
theorem PgO.lcO {a m:Nat} {H:HP} {r P B:AV} {os:List Int} {X:List (List Int)} {Y:List (List (List Int))} (h:PgO a m H r P B os X Y) (hi:isH r=true):LC H a m r (os.map (.i .i64)):=by
  obtain⟨i0,i1,i2,⟨h0,h1,h2⟩,h3,h4⟩:=h
  by_cases hp:0<os.length
  · obtain⟨q,rfl,rfl,g⟩:=h0.invI hp
    have:=h4 q (by simp)
    exact .inr ⟨q,by simp,g,this.1,this.2⟩
  obtain rfl:os=[]:=List.length_eq_zero_iff.1 (by omega)
  rcases h0.vInv 0 [] rfl with ⟨rfl,_⟩|⟨rfl,_⟩|⟨id,cs,ids',rfl,rfl,g1,g2,g3⟩
  · cases hi
  · exact .nil
  have:=h4 id (by simp)
  obtain rfl:cs=[]:=List.length_eq_zero_iff.1 g2
  exact .inr ⟨id,rfl,g1,this.1,this.2⟩
def lenY (Γ:TEnv) (ty:TypeId) (x:AV) (k:AV→Prop):Prop:=lenop Γ ty x k
@[congr] theorem lenY_cg {Γ:TEnv} {ty:TypeId} {x x':AV} {k:AV→Prop} (h:x=x'):lenY Γ ty x k=lenY Γ ty x' k:=by rw[h]
theorem a_lenY {Γ:TEnv} {P:Program} {x:Operand} {ty:TypeId} {tys:List TypeId} {dst:Option Nat} {id:Nat} {s:St} {K:St→Prop}:aop Γ P dst (.call ⟨.builtin .len,[x].toArray,(ty::tys).toArray⟩) id s K=lenY Γ ty (evo s.t x) fun r=>K ⟨putA s.t dst r,s.H,s.nx⟩:=a_len
theorem lenY_ow {Γ:TEnv} {ty:TypeId} {H:HP} {L:AV} {n:Nat} {ts:List AV} {ids:List Nat} {k:AV→Prop} (h:Ow H L (.v n ts) ids) {e:TE} (hty:Γ ty=some e) {el:TypeId} (he:e.d= .slice el):lenY Γ ty L k=k (.i .i64 n):=by
  unfold lenY lenop
  rw[hty]
  dsimp only
  rw[he]
  rcases h.vInv _ _ rfl with ⟨rfl,_⟩|⟨rfl,rfl,_⟩|⟨id,cs,ids',rfl,_⟩<;>rfl
theorem PgO.lens {a m:Nat} {H:HP} {r P B:AV} {os:List Int} {X:List (List Int)} {Y:List (List (List Int))} (h:PgO a m H r P B os X Y):(∀k,lenY env 24 r k=k (.i .i64 os.length))∧(∀k,lenY env 25 P k=k (.i .i64 X.length))∧∀k,lenY env 26 B k=k (.i .i64 Y.length):=by
  obtain⟨i0,i1,i2,⟨h0,h1,h2⟩,h3,h4⟩:=h
  exact⟨fun k=>lenY_ow h0 rfl rfl,fun k=>lenY_ow h1 rfl rfl,fun k=>lenY_ow h2 rfl rfl⟩
def bnd (bs:List Int) (sid nx:Nat) (H G:HP) (r P B:AV):Prop:=(one r=true∧one P=true∧one B=true)∧G (nx+1)=some [.nl,.nl,.nl]∧(∃os X Y m,PgO (nx+2+4) m G r P B os X Y∧drwP os X Y)∧srcOk bs sid G∧∀z,z<nx→z≠sid→G z=H z
theorem bnd.mk {bs:List Int} {sid nx m:Nat} {H G:HP} {r P B:AV} {os:List Int} {X:List (List Int)} {Y:List (List (List Int))} (h:PgO (nx+2+4) m G r P B os X Y) (h0:G (nx+1)=some [.nl,.nl,.nl]) (hd:drwP os X Y) (hg:srcOk bs sid G) (hl:∀z,z<nx→z≠sid→G z=H z):bnd bs sid nx H G r P B:=⟨h.ones,h0,⟨os,X,Y,m,h,hd⟩,hg,hl⟩
theorem finr {bs:List Int} {sid nx:Nat} {H G:HP} {r P B:AV} (h:bnd bs sid nx H G r P B) (hs:sid<nx) (G':HP) (hk:∀z,z≠nx+1→G' z=G z):∃H2,Le H2 G'∧∃r2,Fz H2 (blw nx H2) (.g [r,P,B]) r2∧drwQ r2∧srcOk bs sid H2∧∀i,i<nx→¬i=sid→H2 i=H i:=by
  obtain⟨_,h49,⟨os9,X9,Y9,m9,hpg9,hd9⟩,hg9,hl9⟩:=h
  exact⟨_,fun _ _ h=>h,_,(hpg9.keep (fun z z1 z2=>hk z (by omega)) (Nat.le_refl _)).fz (by omega),⟨os9,X9,Y9,rfl,hd9⟩,hg9.keep (hk _ (by omega)),fun z hz hne=>(hk _ (by omega)).trans (hl9 z hz hne)⟩
theorem PgO.rowV {a m k:Nat} {H:HP} {r P B:AV} {os:List Int} {X:List (List Int)} {Y:List (List (List Int))} (h:PgO a m H r P B os X Y) (hk:k<X.length):∃p rs,P= .h p 0 X.length∧H p=some rs∧rs.length=X.length∧(a≤p∧p<m)∧∀H':HP,(∀i,a≤i→i<m→H' i=H i)→Vw H' (rs.getD k .j) (ints (X.getD k [])):=by
  obtain⟨i0,i1,i2,⟨h0,h1,h2⟩,h3,h4⟩:=h
  unfold rows at h1
  obtain⟨p,rs,js,rfl,rfl,g1,g2,g3⟩:=h1.invV (by omega)
  obtain⟨il,is,ir,rfl,s1,s2,s3⟩:=g3.cut (a:=k) (by omega)
  rw[gd_r hk]at s2
  exact⟨p,rs,rfl,g1,g2,h4 p (by simp),fun H' hk2=>(s2.keep fun i hi=>by have:=h4 i (by simp[hi]);exact hk2 i this.1 this.2).vw⟩
theorem PgO.rowVB {a m k:Nat} {H:HP} {r P B:AV} {os:List Int} {X:List (List Int)} {Y:List (List (List Int))} (h:PgO a m H r P B os X Y) (hk:k<Y.length):∃b bs,B= .h b 0 Y.length∧H b=some bs∧bs.length=Y.length∧(a≤b∧b<m)∧(∀H':HP,(∀i,a≤i→i<m→H' i=H i)→Vw H' (bs.getD k .j) (rows (Y.getD k [])))∧
    ∀(H':HP) (r1:AV) (W:List (List Int)) (is:List Nat) (a' m':Nat),Ow H' r1 (rows W) is→is.Nodup→(∀i∈is,(i<a∨m≤i)∧a'≤i∧i<m')→H' b=some (splice bs k [r1])→(∀i,a≤i→i<m→i≠b→H' i=H i)→m≤m'→a'≤a→PgO a' m' H' r P B os X (Y.set k W):=by
  have h9:=h
  obtain⟨i0,i1,i2,⟨h0,h1,h2⟩,h3,h4⟩:=h
  unfold cubes at h2
  obtain⟨b,bs,js,rfl,rfl,g1,g2,g3⟩:=h2.invV (by omega)
  obtain⟨il,is,ir,rfl,s1,s2,s3⟩:=g3.cut (a:=k) (by omega)
  rw[gd_c hk]at s2
  refine⟨b,bs,rfl,g1,g2,h4 b (by simp),fun H' hk2=>(s2.keep fun i hi=>by have:=h4 i (by simp[hi]);exact hk2 i this.1 this.2).vw,fun H' r1 W is a' m' q1 q2 q3 q4 q5 q6 q7=>?_⟩
  obtain⟨b',bs',e,g1',_,_,hput⟩:=h9.putB (a':=a') (m':=m') (H':=H') (r1:=r1) (W:=W) (is:=is) hk
  injection e with e1 _ _
  subst e1
  rw[g1]at g1';cases g1'
  exact hput q1 q2 q3 q4 q5 q6 q7
theorem mkUe {Γ:TEnv} {P:Program} {b:Nat} {ops:List Oper} {t:Tr} {s:St} {K:St→Prop} (t':Tr) {α β:Type} {C:Nat→HP→α→β→Prop} {S:Nat→HP→α→β→St} (h1:(∀m H x y,C m H x y→trun Γ P b ops t' (S m H x y) K)→trun Γ P b ops t s K) (h2:∀m H x y,C m H x y→trun Γ P b ops t' (S m H x y) K):trun Γ P b ops t s K:=h1 h2
theorem mkWd {N:St→Prop} {α β:Type} {C:Nat→HP→α→β→Prop} {S:Nat→HP→α→β→St} {G:Prop} (h1:(∀m H x y,C m H x y→N (S m H x y))→G) (h2:∀m H x y,C m H x y→N (S m H x y)):G:=h1 h2
--DS 13
def tX7:Tr:= .nil
def tX6:Tr:= .br 10 tX7 .nil
def tX5:Tr:= .br 8 tX6 .nil
def tX4:Tr:= .br 7 tX5 .nil
def tX3:Tr:= .br 6 tX5 .nil
def tX2:Tr:= .br 5 tX3 .nil
def tX1:Tr:= .br 6 tX4 (.br 7 tX3 .nil)
def tX0:Tr:= .br 5 tX1 (.br 7 tX2 .nil)
--END DS 13
--DS 19
def tY10:Tr:= .nil
def tY9:Tr:= .br 14 tY10 .nil
def tY8:Tr:= .br 12 tY9 .nil
def tY7:Tr:= .br 11 tY8 .nil
def tY6:Tr:= .br 10 tY7 .nil
def tY5:Tr:= .br 6 tY8 .nil
def tY4:Tr:= .br 5 tY5 .nil
def tY3:Tr:= .br 6 tY7 (.br 11 tY5 .nil)
def tY2:Tr:= .br 5 tY3 (.br 11 tY4 .nil)
def tY1:Tr:= .br 6 tY6 (.br 10 tY3 .nil)
def tY0:Tr:= .br 5 tY1 (.br 10 tY2 .nil)
--END DS 19
theorem drwP.tr {os:List Int} (h:os.length≤8) (hb:∀x∈os,-1000≤x∧x≤1000):drwP os (trP os.length) (trC os.length):=(trShB h (by omega) hb).drw (by omega) h
set_option maxHeartbeats 4000000 in
theorem spec_l07Bend_o {bs:List Int} {sid:Nat} {H:HP} (hg:srcOk bs sid H) (os:List Int) (X:List (List Int)) (Y:List (List (List Int))) (h:presOk os X Y) (nx:Nat) (hsn:sid<nx):AC Tryz.prog 76 nx H [.q sid 0,prs os X Y] (fun nx' H' r=>∃r2,Fz H' (blw nx H') r r2∧drwQ r2∧srcOk bs sid H'∧∀i,i<nx→i≠sid→H' i=H i):=by
 have hd:=h.drw
 have hn6:=h.1.1
 obtain⟨dd1,dd2,dd3,dd4⟩:=id hd
 refine AC.introx envOk Tryz.func76 rfl (by kernel_rfl) Tryz.ntmps76 Tryz.results76 (fun hfr cX=>?_)
 refine AW.sr envOk (fun N hN=>?_);simp-dsimp-implicitDefEqProofs (disch:=omega)only[go_sem,prs];refine hN _ ?_;try clear hN N
 refine AW.freezeQ 3 nx [ints os,rows X,cubes Y] rfl (by simp(disch:=omega)only[upd_ne,upd_same]) ?_
 simp-dsimp-implicitDefEqProofs (disch:=omega)only[go_sem];refine AW.sr envOk (fun N hN=>?_);simp-dsimp-implicitDefEqProofs (disch:=omega)only[go_sem,prs];refine(spec_l07Own_b os X Y (by omega) dd2 dd3 _ (.cons (.refl _) .nil)).mono2 ?_
 rintro m1 H1 r1 hm1 ⟨r0,P,B,rfl,hpg,hih,hlow⟩
 obtain⟨hr1,hP1,hB1⟩:=hpg.ones
 try simp-dsimp-implicitDefEqProofs (disch:=omega)only[go_sem,prs,hr1,hP1,hB1,ints,Bool.and_true]
 refine hN _ ?_;try clear hN N
 refine AW.seq (fun N1 hN1=>?_);refine AW.nameH (fun G1 hG1=>?_);dsimp only at hG1
 have hl1:∀i,i<nx→i≠sid→G1 i=H i:=fun i hi hne=>by rw[←hG1];simp(disch:=omega)only[upd_ne];rw[hlow i (by omega)];simp(disch:=omega)only[upd_ne]
 have h01:G1 (nx+1)=some [.nl,.nl,.nl]:=by rw[←hG1];simp(disch:=omega)only[upd_ne];rw[hlow _ (by omega)];simp(disch:=omega)only[upd_ne,upd_same]
 have hgs:srcOk bs sid G1:=hg.keep (by rw[←hG1];simp(disch:=omega)only[upd_ne];rw[hlow _ (by omega)];simp(disch:=omega)only[upd_ne])
 replace hpg:PgO (nx+2+4) m1 G1 r0 P B os X Y:=hpg.keep (fun i i1 i2=>by rw[←hG1];simp(disch:=omega)only[upd_ne]) (Nat.le_refl _)
 have hb1:G1 (nx+2+2)=some [r0,P,B]:=by rw[←hG1];simp(disch:=omega)only[upd_same]
 clear hG1
 obtain⟨bx,hbx⟩:∃bx,nx+2+2=bx:=⟨_,rfl⟩
 rw[hbx]at hb1 ⊢
 simp-dsimp-implicitDefEqProofs (disch:=omega)only[go_sem];refine AW.sr envOk (fun N hN=>?_);simp-dsimp-implicitDefEqProofs (disch:=omega)only[go_sem,prs];refine(spec_l01Next_s hgs 6 (by omega) _).mono2 ?_
 rintro m2 H2 r2 hm2 ⟨⟨x2,rfl,hx2⟩,hg2,hk2⟩
 have hpg2:PgO (nx+2+4) m1 H2 r0 P B os X Y:=hpg.keep (fun q q1 q2=>hk2 q (by omega) (by omega)) (Nat.le_refl _)
 have h02:H2 (nx+1)=some [.nl,.nl,.nl]:=(hk2 _ (by omega) (by omega)).trans h01
 have hb2:H2 bx=some [r0,P,B]:=(hk2 _ (by omega) (by omega)).trans hb1
 have hl2:∀q,q<nx→q≠sid→H2 q=H q:=fun q h1 h2=>(hk2 q (by omega) h2).trans (hl1 q h1 h2)
 have hLC:=hpg2.lcO hih
 have hLo:=hLC.one
 have hLl:=hLC.len
 have hLb:=hLC.bd
 obtain⟨hlr,hlP,hlB⟩:=hpg2.lens
 try simp-dsimp-implicitDefEqProofs (disch:=omega)only[go_sem,prs]
 refine hN _ ?_;try clear hN N
 refine AW.block ?_;refine AW.sr envOk (fun N hN=>?_);simp-dsimp-implicitDefEqProofs (disch:=omega)only[go_sem,prs];refine hN _ ?_;try clear hN N
 refine AW.cond rfl (fun h1=>?_) (fun h1=>?_)
 ·try simp only[cn]at h1
  have hbb:=hb2
  have h0b:=h02
  have fin0:∀G9:HP,G9 (m2+2+3)=some (os.map (.i .i64)++[.i .i64 2])→(∀z,z<m2→bk r0≠z+1→z≠bx→G9 z=H2 z)→bnd bs sid nx H G9 (.h (m2+2+3) 0 (os.length+1)) P B:=fun G9 e2 e3=> .mk (hpg2.setO (H':=G9) (m':=m2+2+6) (Ow.ints (xs:=os++[2]) (by rw[e2];simp) (by simp)) (by simp) (fun i hi=>by simp at hi;omega) (fun i i1 i2 i3=>e3 i (by omega) i3 (by omega)) hih (by omega) (Nat.le_refl _)) ((e3 _ (by omega) (by omega) (by omega)).trans h02) ⟨by simp;omega,dd2,dd3,app_all dd4 (by omega)⟩ (hg2.keep (e3 _ (by omega) (by omega) (by omega))) (fun z hz hne=>(e3 z (by omega) (by omega) (by omega)).trans (hl2 z hz hne))
  refine AW.regionL envOk ?_;simp-dsimp-implicitDefEqProofs (disch:=(first|omega|((repeat refine LC.upd (by omega) ?_);assumption))) only[go_sem,prs,hb2,hLo,hLl,apst_LC (a:=nx+2+4) (b:=m1) (L:=r0) (cs:=os.map (.i .i64)),List.length_map,dl_ne]
  refine hN1 _ ?_;try clear hN1 N1
  refine AW.sr envOk (fun N hN=>?_);simp-dsimp-implicitDefEqProofs (disch:=omega)only[go_sem,prs,hr1,hP1,hB1,hbb,h0b,dl_ne,Bool.and_true];refine hN _ ?_;try clear hN N
  refine AW.ret ?_;simp-dsimp-implicitDefEqProofs (disch:=omega)only[go_sem];refine finr ?_ hsn _ (fun z hz=>upd_ne _ _ hz)
  first
  |exact fin0 _ (by simp(disch:=omega)only[upd_same,upd_ne]) (fun z z1 z2 z3=>by simp(disch:=omega)only[upd_ne,dl_ne])
  |exact fin2 _ (by simp(disch:=omega)only[upd_same,upd_ne];rw[List.take_of_length_le (by simp)]) (by simp(disch:=omega)only[upd_same,upd_ne]) (fun z z1 z2=>by simp(disch:=omega)only[upd_ne];exact hk5 z z1)
  |exact fin3 _ (by simp(disch:=omega)only[upd_same,upd_ne,dl_ne]) (by simp(disch:=omega)only[upd_same,upd_ne,dl_ne];exact f10) (by simp(disch:=omega)only[upd_same,upd_ne,dl_ne]) (fun z z1 z2 z3=>by simp(disch:=omega)only[upd_ne,dl_ne])
  |exact fin4 _ (fun z z1=>upd_ne _ _ z1)
  |exact fin1
 try simp only[cn]at h1
 refine AW.sr envOk (fun N hN=>?_);simp-dsimp-implicitDefEqProofs (disch:=omega)only[go_sem,prs];refine hN _ ?_;try clear hN N
 refine AW.cond rfl (fun h2=>?_) (fun h2=>?_)
 ·try simp only[cn]at h2
  refine AW.freezeQ 5 bx _ rfl hb2 ?_
  refine AW.nameH (fun G3 hG3=>?_);dsimp only at hG3
  have hpg3:PgO (nx+2+4) m1 G3 r0 P B os X Y:=hpg2.keep (fun z z1 z2=>by rw[←hG3,upd_ne _ _ (by omega)]) (Nat.le_refl _)
  have h03:G3 (nx+1)=some [.nl,.nl,.nl]:=by rw[←hG3,upd_ne _ _ (by omega)];exact h02
  have hg3:srcOk bs sid G3:=hg2.keep (by rw[←hG3,upd_ne _ _ (by omega)])
  have hl3:∀z,z<nx→z≠sid→G3 z=H z:=fun z hz hne=>by rw[←hG3,upd_ne _ _ (by omega)];exact hl2 z hz hne
  have hbb:True:=trivial
  have h0b:=h03
  have fin1:=bnd.mk hpg3 h03 hd hg3 hl3
  clear hG3
  simp-dsimp-implicitDefEqProofs (disch:=omega)only[go_sem];refine AW.sr envOk (fun N hN=>?_);simp-dsimp-implicitDefEqProofs (disch:=omega)only[go_sem,prs,↓a_lenY,hlr]
  refine hN _ ?_;try clear hN N
  refine AW.cond rfl (fun h3=>?_) (fun h3=>?_)
  ·try simp only[cn]at h3
   obtain⟨q,rfl,hq,hqb,hput⟩:=hpg3.putO (k:=0) (by omega)
   clear fin1
   refine AW.drawF envOk (by kernel_rfl) [true,true,true,false,false,true,false] (by kernel_rfl) ?_
   simp-dsimp-implicitDefEqProofs (disch:=omega)only[go_sem,prs,↓a_bs5i,hq]
   refine(spec_l01Pick_s (hg3.keep (upd_ne _ _ (by omega))) [4,1,11,0,-2] 5 (upd_same _ _ _) rfl (by omega) (by omega) _ (by omega) (by omega) (by omega)).mono2 ?_
   rintro m4 H4 r4 hm4 ⟨⟨x4,rfl,hx4⟩,hg4,hk4⟩
   have hb4: -1000≤x4∧x4≤1000:=by simp at hx4;omega
   have hk5:∀z,z<m2→z≠sid→H4 z=G3 z:=fun z z1 z2=>(hk4 z (by omega) z2).trans (upd_ne _ _ (by omega))
   have hq4:=(hk5 q (by omega) (by omega)).trans hq
   have h0b:=(hk5 (nx+1) (by omega) (by omega)).trans h03
   have fin1:bnd bs sid nx H (upd H4 q (some (splice (os.map (AV.i .i64)) 0 [.i .i64 x4]))) (.h q 0 os.length) P B:= .mk ((hput x4).keep (fun z z1 z2=>upd_cg (hk5 z (by omega) (by omega))) (Nat.le_refl _)) ((upd_ne _ _ (by omega)).trans h0b) ⟨by rw[List.length_set];exact dd1,dd2,dd3,set_all dd4 hb4⟩ (hg4.keep (upd_ne _ _ (by omega))) (fun z hz hne=>(upd_ne _ _ (by omega)).trans ((hk5 z (by omega) hne).trans (hl3 z hz hne)))
   try simp-dsimp-implicitDefEqProofs (disch:=omega)only[go_sem,prs,hq4,List.length_map]
   refine hN1 _ ?_;try clear hN1 N1
   refine AW.sr envOk (fun N hN=>?_);simp-dsimp-implicitDefEqProofs (disch:=omega)only[go_sem,prs,hr1,hP1,hB1,hbb,h0b,dl_ne,Bool.and_true];refine hN _ ?_;try clear hN N
   refine AW.ret ?_;simp-dsimp-implicitDefEqProofs (disch:=omega)only[go_sem];refine finr ?_ hsn _ (fun z hz=>upd_ne _ _ hz)
   first
   |exact fin0 _ (by simp(disch:=omega)only[upd_same,upd_ne]) (fun z z1 z2 z3=>by simp(disch:=omega)only[upd_ne,dl_ne])
   |exact fin2 _ (by simp(disch:=omega)only[upd_same,upd_ne];rw[List.take_of_length_le (by simp)]) (by simp(disch:=omega)only[upd_same,upd_ne]) (fun z z1 z2=>by simp(disch:=omega)only[upd_ne];exact hk5 z z1)
   |exact fin3 _ (by simp(disch:=omega)only[upd_same,upd_ne,dl_ne]) (by simp(disch:=omega)only[upd_same,upd_ne,dl_ne];exact f10) (by simp(disch:=omega)only[upd_same,upd_ne,dl_ne]) (fun z z1 z2 z3=>by simp(disch:=omega)only[upd_ne,dl_ne])
   |exact fin4 _ (fun z z1=>upd_ne _ _ z1)
   |exact fin1
  try simp only[cn]at h3
  refine AW.skip ?_;simp only[thn,blk];refine hN1 _ ?_;try clear hN1 N1
  refine AW.sr envOk (fun N hN=>?_);simp-dsimp-implicitDefEqProofs (disch:=omega)only[go_sem,prs,hr1,hP1,hB1,hbb,h0b,dl_ne,Bool.and_true];refine hN _ ?_;try clear hN N
  refine AW.ret ?_;simp-dsimp-implicitDefEqProofs (disch:=omega)only[go_sem];refine finr ?_ hsn _ (fun z hz=>upd_ne _ _ hz)
  first
  |exact fin0 _ (by simp(disch:=omega)only[upd_same,upd_ne]) (fun z z1 z2 z3=>by simp(disch:=omega)only[upd_ne,dl_ne])
  |exact fin2 _ (by simp(disch:=omega)only[upd_same,upd_ne];rw[List.take_of_length_le (by simp)]) (by simp(disch:=omega)only[upd_same,upd_ne]) (fun z z1 z2=>by simp(disch:=omega)only[upd_ne];exact hk5 z z1)
  |exact fin3 _ (by simp(disch:=omega)only[upd_same,upd_ne,dl_ne]) (by simp(disch:=omega)only[upd_same,upd_ne,dl_ne];exact f10) (by simp(disch:=omega)only[upd_same,upd_ne,dl_ne]) (fun z z1 z2 z3=>by simp(disch:=omega)only[upd_ne,dl_ne])
  |exact fin4 _ (fun z z1=>upd_ne _ _ z1)
  |exact fin1
 try simp only[cn]at h2
 refine AW.sr envOk (fun N hN=>?_);simp-dsimp-implicitDefEqProofs (disch:=omega)only[go_sem,prs];refine hN _ ?_;try clear hN N
 refine AW.cond rfl (fun h4=>?_) (fun h4=>?_)
 ·try simp only[cn]at h4
  refine AW.freezeQ 5 bx _ rfl hb2 ?_
  refine AW.nameH (fun G3 hG3=>?_);dsimp only at hG3
  have hpg3:PgO (nx+2+4) m1 G3 r0 P B os X Y:=hpg2.keep (fun z z1 z2=>by rw[←hG3,upd_ne _ _ (by omega)]) (Nat.le_refl _)
  have h03:G3 (nx+1)=some [.nl,.nl,.nl]:=by rw[←hG3,upd_ne _ _ (by omega)];exact h02
  have hg3:srcOk bs sid G3:=hg2.keep (by rw[←hG3,upd_ne _ _ (by omega)])
  have hl3:∀z,z<nx→z≠sid→G3 z=H z:=fun z hz hne=>by rw[←hG3,upd_ne _ _ (by omega)];exact hl2 z hz hne
  have hbb:True:=trivial
  have h0b:=h03
  have fin1:=bnd.mk hpg3 h03 hd hg3 hl3
  clear hG3
  simp-dsimp-implicitDefEqProofs (disch:=omega)only[go_sem];refine AW.sr envOk (fun N hN=>?_);simp-dsimp-implicitDefEqProofs (disch:=omega)only[go_sem,prs,↓a_lenY,hlP]
  refine hN _ ?_;try clear hN N
  refine AW.cond rfl (fun h5=>?_) (fun h5=>?_)
  ·try simp only[cn]at h5
   obtain⟨p,rs,rfl,hp,hrl,hpb,hvw⟩:=hpg3.rowV (k:=0) (by omega)
   clear fin1
   have hX0:=dd2.row 0
   refine AW.name (fun N hN=>?_);apply mkVd (N:=N)
   ·intro key
    refine AW.drawT envOk (by kernel_rfl) [true,true,true,true,true,false,false,false,false,true,false] (tX0) (by kernel_rfl) ?_
    simp-dsimp-implicitDefEqProofs (disch:=omega)only[go_sem,prs];apply mkUd tX7 (C:=fun m H id=>((m2+2+2+2+4+11≤m∧m2+2+2+2+4+11≤id∧id<m)∧H id=some ((X.getD 0 []).map (AV.i .i64))∧∀i,i<m2→H i=G3 i))
    intro htX7
    apply mkUd tX6 (C:=fun m H id=>((m2+2+2+2+4+11≤m∧m2+2+2+2+4+11≤id∧id<m)∧H id=some ((X.getD 0 []).map (AV.i .i64))∧∀i,i<m2→H i=G3 i))
    intro htX6
    apply mkUd tX5 (C:=fun m H id=>((m2+2+2+2+4+11≤m∧m2+2+2+2+4+11≤id∧id<m)∧H id=some ((X.getD 0 []).map (AV.i .i64))∧∀i,i<m2→H i=G3 i)∧H (m2+2+2+2+4+7)=some ([AV.i .i64 0]))
    intro htX5
    apply mkUd tX4 (C:=fun m H id=>((m2+2+2+2+4+11≤m∧m2+2+2+2+4+11≤id∧id<m)∧H id=some ((X.getD 0 []).map (AV.i .i64))∧∀i,i<m2→H i=G3 i))
    intro htX4
    apply mkTd tX3
    intro htX3
    apply mkTd tX2
    intro htX2
    apply mkTd tX1
    intro htX1
    ·rw[tX0]
     try simp-dsimp-implicitDefEqProofs (disch:=omega)only[go_sem,hp,hrl,List.length_map]
     repeat' (with_reducible refine And.intro ?_ ?_)
     all_goals try (with_reducible first|exact htX1|exact htX2)
    ·rw[tX1]
     try simp-dsimp-implicitDefEqProofs (disch:=omega)only[go_sem,hp,hrl,List.length_map]
     repeat' (with_reducible refine And.intro ?_ ?_)
     all_goals try (with_reducible first|exact htX3)
     refine(own_v (X.getD 0 []) (by omega) _ (.cons (hvw _ (fun i i1 i2=>by first|rfl|exact upd_ne _ _ (by omega))) .nil)).mono2 ?_
     rintro m9 H9 r9 hm9 ⟨⟨x9,rfl,hx9,hx9b,hx9c⟩,hk9⟩
     try simp-dsimp-implicitDefEqProofs (disch:=omega)only[go_sem,hp,hrl,List.length_map]
     exact htX4 m9 H9 x9 (And.intro (And.intro hm9 (And.intro hx9 hx9b)) (And.intro hx9c (fun i hi=>(hk9 i (by omega)).trans (by first|rfl|exact upd_ne _ _ (by omega)))))
    ·rw[tX2]
     try simp-dsimp-implicitDefEqProofs (disch:=omega)only[go_sem,hp,hrl,List.length_map]
     repeat' (with_reducible refine And.intro ?_ ?_)
     all_goals try (with_reducible first|exact htX3)
    ·rw[tX3]
     try simp-dsimp-implicitDefEqProofs (disch:=omega)only[go_sem,hp,hrl,List.length_map]
     repeat' (with_reducible refine And.intro ?_ ?_)
     refine(own_v (X.getD 0 []) (by omega) _ (.cons (hvw _ (fun i i1 i2=>by first|rfl|exact upd_ne _ _ (by omega))) .nil)).mono2 ?_
     rintro m9 H9 r9 hm9 ⟨⟨x9,rfl,hx9,hx9b,hx9c⟩,hk9⟩
     try simp-dsimp-implicitDefEqProofs (disch:=omega)only[go_sem,hp,hrl,List.length_map]
     exact htX5 m9 H9 x9 ⟨And.intro (And.intro hm9 (And.intro hx9 hx9b)) (And.intro hx9c (fun i hi=>(hk9 i (by omega)).trans (by first|rfl|exact upd_ne _ _ (by omega)))),(hk9 _ (by omega)).trans (by simp(disch:=omega)only[upd_same,upd_ne])⟩
    ·intro m9 H9 x9 hC
     have hA:=hC
     have f7:True:=trivial
     have hp5:=(hA.2.2 p (by omega)).trans hp
     have hid9:=hA.2.1
     have hid8:=hA.1
     rw[tX4]
     try simp-dsimp-implicitDefEqProofs (disch:=omega)only[go_sem,hp5,hrl,hid9,f7,List.length_map]
     repeat' (with_reducible refine And.intro ?_ ?_)
     all_goals first|exact htX5 m9 _ x9 ⟨And.intro hA.1 (And.intro ((upd_ne _ _ (by omega)).trans hid9) (fun i hi=>(upd_ne _ _ (by omega)).trans (hA.2.2 i hi))),upd_same _ _ _⟩
    ·intro m9 H9 x9 hC
     obtain⟨hA,f7⟩:=hC
     have hp5:=(hA.2.2 p (by omega)).trans hp
     have hid9:=hA.2.1
     have hid8:=hA.1
     rw[tX5]
     try simp-dsimp-implicitDefEqProofs (disch:=omega)only[go_sem,hp5,hrl,hid9,f7,List.length_map]
     repeat' (with_reducible refine And.intro ?_ ?_)
     all_goals try (with_reducible first|exact htX6 m9 H9 x9 (hA))
    ·intro m9 H9 x9 hC
     have hA:=hC
     have f7:True:=trivial
     have hp5:=(hA.2.2 p (by omega)).trans hp
     have hid9:=hA.2.1
     have hid8:=hA.1
     rw[tX6]
     try simp-dsimp-implicitDefEqProofs (disch:=omega)only[go_sem,hp5,hrl,hid9,f7,List.length_map]
     repeat' (with_reducible refine And.intro ?_ ?_)
     all_goals try (with_reducible first|exact htX7 m9 H9 x9 (hA))
    intro m9 H9 x9 hC
    have hA:=hC
    have f7:True:=trivial
    have hp5:=(hA.2.2 p (by omega)).trans hp
    have hid9:=hA.2.1
    have hid8:=hA.1
    rw[tX7]
    try simp-dsimp-implicitDefEqProofs (disch:=omega)only[go_sem,hp5,hrl,hid9,f7,List.length_map]
    exact key m9 H9 x9 hA
   intro m5 H5 id5 hC
   obtain⟨⟨hm5,hid5,hid5b⟩,hid5c,hk5⟩:=hC
   have h0b:=(hk5 (nx+1) (by omega)).trans h03
   have fin2:∀G9:HP,G9 (m2+2+2+2+4+8)=some ((X.getD 0 []).map (AV.i .i64)++[.i .i64 0])→G9 p=some (splice rs 0 [.h (m2+2+2+2+4+8) 0 ((X.getD 0 []).length+1)])→(∀z,z<m2→z≠p→G9 z=G3 z)→bnd bs sid nx H G9 r0 (.h p 0 X.length) B:=fun G9 e1 e2 e3=> .mk (hpg3.setP (H':=G9) (a':=nx+2+4) (m':=m2+2+2+2+4+9) (x:=X.getD 0 []++[0]) hp (by omega) rfl (Ow.ints (by rw[e1];simp) (by simp)) (by simp) (fun i hi=>by simp at hi;omega) e2 (fun i i1 i2 i3=>e3 i (by omega) i3) (by omega) (Nat.le_refl _)) ((e3 (nx+1) (by omega) (by omega)).trans h03) ⟨dd1,dd2.set (v:=X.getD 0 []++[0]) (by rw[List.length_append,List.length_singleton];have:=(h.2.2.2 0 (by have:=h.1.2.1;omega)).1.1;omega),dd3,dd4⟩ (hg3.keep (e3 sid (by omega) (by omega))) (fun z hz hne=>(e3 z (by omega) (by omega)).trans (hl3 z hz hne))
   refine hN _ ?_;simp only[thn,blk];refine hN1 _ ?_;try clear hN1 N1
   refine AW.sr envOk (fun N hN=>?_);simp-dsimp-implicitDefEqProofs (disch:=omega)only[go_sem,prs,hr1,hP1,hB1,hbb,h0b,dl_ne,Bool.and_true];refine hN _ ?_;try clear hN N
   refine AW.ret ?_;simp-dsimp-implicitDefEqProofs (disch:=omega)only[go_sem];refine finr ?_ hsn _ (fun z hz=>upd_ne _ _ hz)
   first
   |exact fin0 _ (by simp(disch:=omega)only[upd_same,upd_ne]) (fun z z1 z2 z3=>by simp(disch:=omega)only[upd_ne,dl_ne])
   |exact fin2 _ (by simp(disch:=omega)only[upd_same,upd_ne];rw[List.take_of_length_le (by simp)]) (by simp(disch:=omega)only[upd_same,upd_ne]) (fun z z1 z2=>by simp(disch:=omega)only[upd_ne];exact hk5 z z1)
   |exact fin3 _ (by simp(disch:=omega)only[upd_same,upd_ne,dl_ne]) (by simp(disch:=omega)only[upd_same,upd_ne,dl_ne];exact f10) (by simp(disch:=omega)only[upd_same,upd_ne,dl_ne]) (fun z z1 z2 z3=>by simp(disch:=omega)only[upd_ne,dl_ne])
   |exact fin4 _ (fun z z1=>upd_ne _ _ z1)
   |exact fin1
  try simp only[cn]at h5
  refine AW.skip ?_;simp only[thn,blk];refine hN1 _ ?_;try clear hN1 N1
  refine AW.sr envOk (fun N hN=>?_);simp-dsimp-implicitDefEqProofs (disch:=omega)only[go_sem,prs,hr1,hP1,hB1,hbb,h0b,dl_ne,Bool.and_true];refine hN _ ?_;try clear hN N
  refine AW.ret ?_;simp-dsimp-implicitDefEqProofs (disch:=omega)only[go_sem];refine finr ?_ hsn _ (fun z hz=>upd_ne _ _ hz)
  first
  |exact fin0 _ (by simp(disch:=omega)only[upd_same,upd_ne]) (fun z z1 z2 z3=>by simp(disch:=omega)only[upd_ne,dl_ne])
  |exact fin2 _ (by simp(disch:=omega)only[upd_same,upd_ne];rw[List.take_of_length_le (by simp)]) (by simp(disch:=omega)only[upd_same,upd_ne]) (fun z z1 z2=>by simp(disch:=omega)only[upd_ne];exact hk5 z z1)
  |exact fin3 _ (by simp(disch:=omega)only[upd_same,upd_ne,dl_ne]) (by simp(disch:=omega)only[upd_same,upd_ne,dl_ne];exact f10) (by simp(disch:=omega)only[upd_same,upd_ne,dl_ne]) (fun z z1 z2 z3=>by simp(disch:=omega)only[upd_ne,dl_ne])
  |exact fin4 _ (fun z z1=>upd_ne _ _ z1)
  |exact fin1
 try simp only[cn]at h4
 refine AW.sr envOk (fun N hN=>?_);simp-dsimp-implicitDefEqProofs (disch:=omega)only[go_sem,prs];refine hN _ ?_;try clear hN N
 refine AW.cond rfl (fun h6=>?_) (fun h6=>?_)
 ·try simp only[cn]at h6
  refine AW.freezeQ 5 bx _ rfl hb2 ?_
  refine AW.nameH (fun G3 hG3=>?_);dsimp only at hG3
  have hpg3:PgO (nx+2+4) m1 G3 r0 P B os X Y:=hpg2.keep (fun z z1 z2=>by rw[←hG3,upd_ne _ _ (by omega)]) (Nat.le_refl _)
  have h03:G3 (nx+1)=some [.nl,.nl,.nl]:=by rw[←hG3,upd_ne _ _ (by omega)];exact h02
  have hg3:srcOk bs sid G3:=hg2.keep (by rw[←hG3,upd_ne _ _ (by omega)])
  have hl3:∀z,z<nx→z≠sid→G3 z=H z:=fun z hz hne=>by rw[←hG3,upd_ne _ _ (by omega)];exact hl2 z hz hne
  have hbb:True:=trivial
  have h0b:=h03
  have fin1:=bnd.mk hpg3 h03 hd hg3 hl3
  clear hG3
  simp-dsimp-implicitDefEqProofs (disch:=omega)only[go_sem];refine AW.sr envOk (fun N hN=>?_);simp-dsimp-implicitDefEqProofs (disch:=omega)only[go_sem,prs,↓a_lenY,hlP]
  refine gopB.mk' (fun h7=>?_) (fun h7=>?_)
  ·try simp only[cn]at h7
   have hX0:=(h.2.2.2 0 (by have:=h.1.2.1;omega)).1.1
   obtain⟨p,rs,q,rfl,hp,hrl,hrq,hq,hpb,hqb,hpq,hput⟩:=hpg3.putR (k:=0) (l:=0) (by omega) (by have:=h.1.2.1;omega)
   clear fin1
   have fin1:bnd bs sid nx H (upd G3 q (some (splice ((X.getD 0 []).map (AV.i .i64)) 0 [.i .i64 1]))) r0 (.h p 0 X.length) B:= .mk (hput 1) ((upd_ne _ _ (by omega)).trans h03) ⟨dd1,dd2.set (by rw[List.length_set];omega),dd3,dd4⟩ (hg3.keep (upd_ne _ _ (by omega))) (fun z hz hne=>(upd_ne _ _ (by omega)).trans (hl3 z hz hne))
   try simp-dsimp-implicitDefEqProofs (disch:=omega)only[go_sem,prs,hp,hrl,hrq]
   try simp-dsimp-implicitDefEqProofs (disch:=omega)only[go_sem,prs]
   refine hN _ ?_;try clear hN N
   refine AW.cond rfl (fun h8=>?_) (fun h8=>?_)
   ·try simp only[cn]at h8
    refine AW.regionL envOk ?_;simp-dsimp-implicitDefEqProofs (disch:=omega)only[go_sem,prs,hp,hrl,hrq,hq,List.length_map];refine hN1 _ ?_;try clear hN1 N1
    refine AW.sr envOk (fun N hN=>?_);simp-dsimp-implicitDefEqProofs (disch:=omega)only[go_sem,prs,hr1,hP1,hB1,hbb,h0b,dl_ne,Bool.and_true];refine hN _ ?_;try clear hN N
    refine AW.ret ?_;simp-dsimp-implicitDefEqProofs (disch:=omega)only[go_sem];refine finr ?_ hsn _ (fun z hz=>upd_ne _ _ hz)
    first
    |exact fin0 _ (by simp(disch:=omega)only[upd_same,upd_ne]) (fun z z1 z2 z3=>by simp(disch:=omega)only[upd_ne,dl_ne])
    |exact fin2 _ (by simp(disch:=omega)only[upd_same,upd_ne];rw[List.take_of_length_le (by simp)]) (by simp(disch:=omega)only[upd_same,upd_ne]) (fun z z1 z2=>by simp(disch:=omega)only[upd_ne];exact hk5 z z1)
    |exact fin3 _ (by simp(disch:=omega)only[upd_same,upd_ne,dl_ne]) (by simp(disch:=omega)only[upd_same,upd_ne,dl_ne];exact f10) (by simp(disch:=omega)only[upd_same,upd_ne,dl_ne]) (fun z z1 z2 z3=>by simp(disch:=omega)only[upd_ne,dl_ne])
    |exact fin4 _ (fun z z1=>upd_ne _ _ z1)
    |exact fin1
   try simp only[cn]at h8
   exfalso;have:=h.1.2.1;first|omega|(simp at h8;omega)
  try simp only[cn]at h7
  try simp-dsimp-implicitDefEqProofs (disch:=omega)only[go_sem,prs]
  refine hN _ ?_;try clear hN N
  refine AW.condF rfl ?_;refine AW.skip ?_;simp only[thn,blk];refine hN1 _ ?_;try clear hN1 N1
  refine AW.sr envOk (fun N hN=>?_);simp-dsimp-implicitDefEqProofs (disch:=omega)only[go_sem,prs,hr1,hP1,hB1,hbb,h0b,dl_ne,Bool.and_true];refine hN _ ?_;try clear hN N
  refine AW.ret ?_;simp-dsimp-implicitDefEqProofs (disch:=omega)only[go_sem];refine finr ?_ hsn _ (fun z hz=>upd_ne _ _ hz)
  first
  |exact fin0 _ (by simp(disch:=omega)only[upd_same,upd_ne]) (fun z z1 z2 z3=>by simp(disch:=omega)only[upd_ne,dl_ne])
  |exact fin2 _ (by simp(disch:=omega)only[upd_same,upd_ne];rw[List.take_of_length_le (by simp)]) (by simp(disch:=omega)only[upd_same,upd_ne]) (fun z z1 z2=>by simp(disch:=omega)only[upd_ne];exact hk5 z z1)
  |exact fin3 _ (by simp(disch:=omega)only[upd_same,upd_ne,dl_ne]) (by simp(disch:=omega)only[upd_same,upd_ne,dl_ne];exact f10) (by simp(disch:=omega)only[upd_same,upd_ne,dl_ne]) (fun z z1 z2 z3=>by simp(disch:=omega)only[upd_ne,dl_ne])
  |exact fin4 _ (fun z z1=>upd_ne _ _ z1)
  |exact fin1
 try simp only[cn]at h6
 refine AW.sr envOk (fun N hN=>?_);simp-dsimp-implicitDefEqProofs (disch:=omega)only[go_sem,prs];refine hN _ ?_;try clear hN N
 refine AW.cond rfl (fun h9=>?_) (fun h9=>?_)
 ·try simp only[cn]at h9
  refine AW.freezeQ 5 bx _ rfl hb2 ?_
  refine AW.nameH (fun G3 hG3=>?_);dsimp only at hG3
  have hpg3:PgO (nx+2+4) m1 G3 r0 P B os X Y:=hpg2.keep (fun z z1 z2=>by rw[←hG3,upd_ne _ _ (by omega)]) (Nat.le_refl _)
  have h03:G3 (nx+1)=some [.nl,.nl,.nl]:=by rw[←hG3,upd_ne _ _ (by omega)];exact h02
  have hg3:srcOk bs sid G3:=hg2.keep (by rw[←hG3,upd_ne _ _ (by omega)])
  have hl3:∀z,z<nx→z≠sid→G3 z=H z:=fun z hz hne=>by rw[←hG3,upd_ne _ _ (by omega)];exact hl2 z hz hne
  have hbb:True:=trivial
  have h0b:=h03
  have fin1:=bnd.mk hpg3 h03 hd hg3 hl3
  clear hG3
  simp-dsimp-implicitDefEqProofs (disch:=omega)only[go_sem];refine AW.sr envOk (fun N hN=>?_);simp-dsimp-implicitDefEqProofs (disch:=omega)only[go_sem,prs,↓a_lenY,hlB]
  refine hN _ ?_;try clear hN N
  refine AW.cond rfl (fun h10=>?_) (fun h10=>?_)
  ·try simp only[cn]at h10
   obtain⟨b,bs1,rfl,hb,hbl,hbb1,hvw,hput⟩:=hpg3.rowVB (k:=0) (by omega)
   clear fin1
   have hos:0<os.length:=by have:=h.1.2.2;omega
   obtain⟨q0,rfl,hq0,hq0b,-⟩:=hpg3.putO (k:=0) hos
   have hY0:=dd3.row 0
   have hY0n:=hY0.n
   refine AW.name (fun N hN=>?_);apply mkWd (N:=N)
   ·intro key
    refine AW.drawT envOk (by kernel_rfl) [true,true,true,true,true,false,false,true,true,true,false,false,false,true,false] (tY0) (by kernel_rfl) ?_
    simp-dsimp-implicitDefEqProofs (disch:=omega)only[go_sem,prs];apply mkUe tY10 (C:=fun m H L cs=>(m2+2+2+2+2+2+4+15≤m∧OLi (m2+2+2+2+2+2+4+15) m H L cs ((Y.getD 0 []).map ints)∧∀i,i<m2→H i=G3 i)∧H (m2+2+2+2+2+2+4+10)=some (List.replicate os.length (AV.i .i64 0)))
    intro htY10
    apply mkUe tY9 (C:=fun m H L cs=>(m2+2+2+2+2+2+4+15≤m∧OLi (m2+2+2+2+2+2+4+15) m H L cs ((Y.getD 0 []).map ints)∧∀i,i<m2→H i=G3 i)∧H (m2+2+2+2+2+2+4+10)=some (List.replicate os.length (AV.i .i64 0)))
    intro htY9
    apply mkUe tY8 (C:=fun m H L cs=>(m2+2+2+2+2+2+4+15≤m∧OLi (m2+2+2+2+2+2+4+15) m H L cs ((Y.getD 0 []).map ints)∧∀i,i<m2→H i=G3 i)∧H (m2+2+2+2+2+2+4+10)=some (List.replicate os.length (AV.i .i64 0))∧H (m2+2+2+2+2+2+4+11)=some ([AV.h (m2+2+2+2+2+2+4+10) 0 os.length]))
    intro htY8
    apply mkUe tY7 (C:=fun m H L cs=>(m2+2+2+2+2+2+4+15≤m∧OLi (m2+2+2+2+2+2+4+15) m H L cs ((Y.getD 0 []).map ints)∧∀i,i<m2→H i=G3 i)∧H (m2+2+2+2+2+2+4+10)=some (List.replicate os.length (AV.i .i64 0)))
    intro htY7
    apply mkUe tY6 (C:=fun m H L cs=>(m2+2+2+2+2+2+4+15≤m∧OLi (m2+2+2+2+2+2+4+15) m H L cs ((Y.getD 0 []).map ints)∧∀i,i<m2→H i=G3 i))
    intro htY6
    apply mkTd tY5
    intro htY5
    apply mkTd tY4
    intro htY4
    apply mkTd tY3
    intro htY3
    apply mkTd tY2
    intro htY2
    apply mkTd tY1
    intro htY1
    ·rw[tY0]
     try simp-dsimp-implicitDefEqProofs (disch:=omega)only[go_sem,hb,hbl,List.length_map]
     repeat' (with_reducible refine And.intro ?_ ?_)
     all_goals try (with_reducible first|exact htY1|exact htY2)
    ·rw[tY1]
     try simp-dsimp-implicitDefEqProofs (disch:=omega)only[go_sem,hb,hbl,List.length_map]
     repeat' (with_reducible refine And.intro ?_ ?_)
     all_goals try (with_reducible first|exact htY3)
     refine(own2_v (Y.getD 0 []) hY0 _ (.cons (hvw _ (fun i i1 i2=>by first|rfl|(simp(disch:=omega)only[upd_ne]))) .nil)).mono2 ?_
     rintro m9 H9 L9 hm9 ⟨⟨cs9,hOL⟩,hk9⟩
     try simp-dsimp-implicitDefEqProofs (disch:=omega)only[go_sem,hb,hbl,List.length_map]
     exact htY6 m9 H9 L9 cs9 (And.intro hm9 (And.intro hOL (fun i hi=>(hk9 i (by omega)).trans (by first|rfl|(simp(disch:=omega)only[upd_ne])))))
    ·rw[tY2]
     try simp-dsimp-implicitDefEqProofs (disch:=omega)only[go_sem,hb,hbl,List.length_map]
     repeat' (with_reducible refine And.intro ?_ ?_)
     all_goals try (with_reducible first|exact htY3|exact htY4)
    ·rw[tY3]
     try simp-dsimp-implicitDefEqProofs (disch:=omega)only[go_sem,hb,hbl,List.length_map]
     repeat' (with_reducible refine And.intro ?_ ?_)
     all_goals try (with_reducible first|exact htY5)
     refine(own2_v (Y.getD 0 []) hY0 _ (.cons (hvw _ (fun i i1 i2=>by first|rfl|(simp(disch:=omega)only[upd_ne]))) .nil)).mono2 ?_
     rintro m9 H9 L9 hm9 ⟨⟨cs9,hOL⟩,hk9⟩
     try simp-dsimp-implicitDefEqProofs (disch:=omega)only[go_sem,hb,hbl,List.length_map]
     exact htY7 m9 H9 L9 cs9 ⟨And.intro hm9 (And.intro hOL (fun i hi=>(hk9 i (by omega)).trans (by first|rfl|(simp(disch:=omega)only[upd_ne])))),(hk9 _ (by omega)).trans (by simp(disch:=omega)only[upd_same,upd_ne])⟩
    ·rw[tY4]
     try simp-dsimp-implicitDefEqProofs (disch:=omega)only[go_sem,hb,hbl,List.length_map]
     repeat' (with_reducible refine And.intro ?_ ?_)
     all_goals try (with_reducible first|exact htY5)
    ·rw[tY5]
     try simp-dsimp-implicitDefEqProofs (disch:=omega)only[go_sem,hb,hbl,List.length_map]
     repeat' (with_reducible refine And.intro ?_ ?_)
     refine(own2_v (Y.getD 0 []) hY0 _ (.cons (hvw _ (fun i i1 i2=>by first|rfl|(simp(disch:=omega)only[upd_ne]))) .nil)).mono2 ?_
     rintro m9 H9 L9 hm9 ⟨⟨cs9,hOL⟩,hk9⟩
     try simp-dsimp-implicitDefEqProofs (disch:=omega)only[go_sem,hb,hbl,List.length_map]
     exact htY8 m9 H9 L9 cs9 ⟨And.intro hm9 (And.intro hOL (fun i hi=>(hk9 i (by omega)).trans (by first|rfl|(simp(disch:=omega)only[upd_ne])))),(hk9 _ (by omega)).trans (by simp(disch:=omega)only[upd_same,upd_ne]),(hk9 _ (by omega)).trans (by simp(disch:=omega)only[upd_same,upd_ne])⟩
    ·intro m9 H9 L9 cs9 hC
     have hA:=hC
     have f10:True:=trivial
     have f11:True:=trivial
     have hb5:=(hA.2.2 b (by omega)).trans hb
     have hm8:=hA.1
     have hLC:=hA.2.1.1
     have hLo:=hLC.one
     have hLl:=hLC.len
     have hLb:=hLC.bd
     have hcl:cs9.length≤1048576:=by rw[hA.2.1.len,List.length_map];exact hY0n
     rw[tY6]
     try simp-dsimp-implicitDefEqProofs (disch:=(first|omega|((repeat refine LC.upd (by omega) ?_);assumption))) only[go_sem,hb5,hbl,hLo,hLl,f10,f11,one_lh,dl_ne,List.length_map,apst_LC (a:=m2+2+2+2+2+2+4+15) (b:=m9) (L:=L9) (cs:=cs9)]
     repeat' (with_reducible refine And.intro ?_ ?_)
     all_goals first|exact htY7 m9 _ L9 cs9 ⟨And.intro hA.1 (And.intro (hA.2.1.keep (fun i i1 i2=>upd_ne _ _ (by omega)) (Nat.le_refl _)) (fun i hi=>(upd_ne _ _ (by omega)).trans (hA.2.2 i hi))),upd_same _ _ _⟩
    ·intro m9 H9 L9 cs9 hC
     obtain⟨hA,f10⟩:=hC
     have f11:True:=trivial
     have hb5:=(hA.2.2 b (by omega)).trans hb
     have hm8:=hA.1
     have hLC:=hA.2.1.1
     have hLo:=hLC.one
     have hLl:=hLC.len
     have hLb:=hLC.bd
     have hcl:cs9.length≤1048576:=by rw[hA.2.1.len,List.length_map];exact hY0n
     rw[tY7]
     try simp-dsimp-implicitDefEqProofs (disch:=(first|omega|((repeat refine LC.upd (by omega) ?_);assumption))) only[go_sem,hb5,hbl,hLo,hLl,f10,f11,one_lh,dl_ne,List.length_map,apst_LC (a:=m2+2+2+2+2+2+4+15) (b:=m9) (L:=L9) (cs:=cs9)]
     repeat' (with_reducible refine And.intro ?_ ?_)
     all_goals first|exact htY8 m9 _ L9 cs9 ⟨And.intro hA.1 (And.intro (hA.2.1.keep (fun i i1 i2=>upd_ne _ _ (by omega)) (Nat.le_refl _)) (fun i hi=>(upd_ne _ _ (by omega)).trans (hA.2.2 i hi))),(upd_ne _ _ (by omega)).trans f10,upd_same _ _ _⟩
    ·intro m9 H9 L9 cs9 hC
     obtain⟨hA,f10,f11⟩:=hC
     have hb5:=(hA.2.2 b (by omega)).trans hb
     have hm8:=hA.1
     have hLC:=hA.2.1.1
     have hLo:=hLC.one
     have hLl:=hLC.len
     have hLb:=hLC.bd
     have hcl:cs9.length≤1048576:=by rw[hA.2.1.len,List.length_map];exact hY0n
     rw[tY8]
     try simp-dsimp-implicitDefEqProofs (disch:=(first|omega|((repeat refine LC.upd (by omega) ?_);assumption))) only[go_sem,hb5,hbl,hLo,hLl,f10,f11,one_lh,dl_ne,List.length_map,apst_LC (a:=m2+2+2+2+2+2+4+15) (b:=m9) (L:=L9) (cs:=cs9)]
     repeat' (with_reducible refine And.intro ?_ ?_)
     all_goals try (with_reducible first|exact htY9 m9 H9 L9 cs9 ⟨hA,f10⟩)
    ·intro m9 H9 L9 cs9 hC
     obtain⟨hA,f10⟩:=hC
     have f11:True:=trivial
     have hb5:=(hA.2.2 b (by omega)).trans hb
     have hm8:=hA.1
     have hLC:=hA.2.1.1
     have hLo:=hLC.one
     have hLl:=hLC.len
     have hLb:=hLC.bd
     have hcl:cs9.length≤1048576:=by rw[hA.2.1.len,List.length_map];exact hY0n
     rw[tY9]
     try simp-dsimp-implicitDefEqProofs (disch:=(first|omega|((repeat refine LC.upd (by omega) ?_);assumption))) only[go_sem,hb5,hbl,hLo,hLl,f10,f11,one_lh,dl_ne,List.length_map,apst_LC (a:=m2+2+2+2+2+2+4+15) (b:=m9) (L:=L9) (cs:=cs9)]
     repeat' (with_reducible refine And.intro ?_ ?_)
     all_goals try (with_reducible first|exact htY10 m9 H9 L9 cs9 ⟨hA,f10⟩)
    intro m9 H9 L9 cs9 hC
    obtain⟨hA,f10⟩:=hC
    have f11:True:=trivial
    have hb5:=(hA.2.2 b (by omega)).trans hb
    have hm8:=hA.1
    have hLC:=hA.2.1.1
    have hLo:=hLC.one
    have hLl:=hLC.len
    have hLb:=hLC.bd
    have hcl:cs9.length≤1048576:=by rw[hA.2.1.len,List.length_map];exact hY0n
    rw[tY10]
    try simp-dsimp-implicitDefEqProofs (disch:=(first|omega|((repeat refine LC.upd (by omega) ?_);assumption))) only[go_sem,hb5,hbl,hLo,hLl,f10,f11,one_lh,dl_ne,List.length_map,apst_LC (a:=m2+2+2+2+2+2+4+15) (b:=m9) (L:=L9) (cs:=cs9)]
    exact key m9 H9 L9 cs9 (And.intro hA f10)
   intro m6 H6 L6 cs6 hC
   obtain⟨⟨hm6,hOL,hk6⟩,f10⟩:=hC
   have hLb:=hOL.1.bd
   have h0b:=(hk6 (nx+1) (by omega)).trans h03
   have fin3:∀G9:HP,G9 (m2+2+2+2+2+2+4+12)=some (cs6++[.h (m2+2+2+2+2+2+4+10) 0 os.length])→G9 (m2+2+2+2+2+2+4+10)=some (List.replicate os.length (.i .i64 0))→G9 b=some (splice bs1 0 [.h (m2+2+2+2+2+2+4+12) 0 (cs6.length+1)])→(∀z,z≠b→(z<m2∨m2+2+2+2+2+2+4+15≤z)→bk L6≠z+1→G9 z=H6 z)→bnd bs sid nx H G9 (.h q0 0 os.length) P (.h b 0 Y.length):=fun G9 e1 e2 e3 e4=>by
    obtain⟨hLC,ids,g1,g2,g3⟩:=hOL
    have ho:Ow G9 (.h (m2+2+2+2+2+2+4+10) 0 os.length) (ints (List.replicate os.length 0)) [m2+2+2+2+2+2+4+10]:=Ow.ints (by rw[e2];simp) (by simp)
    obtain⟨ids',k1,k2,k3,k4⟩:=g1.more (H':=G9) (id:=m2+2+2+2+2+2+4+12) hLC ho e1 (fun i hi hne=>e4 i (by have:=g3 i hi;omega) (by have:=g3 i hi;omega) hne) g2
    have hr2:=(h.2.2.2 0 hos).2.1
    have hz:(Y.getD 0 []).map ints++[ints (List.replicate os.length 0)]=(Y.getD 0 []++[List.replicate os.length 0]).map ints:=by simp
    rw[hz,←rows_v]at k1
    have hz2:rowslen (Y.getD 0 []++[List.replicate os.length 0]):=⟨by rw[List.length_append,List.length_singleton];omega,app_all hY0.v (by simp;omega)⟩
    refine .mk (hput G9 _ _ _ (nx+2+4) m6 k1 ?_ ?_ e3 (fun i i1 i2 i3=>(e4 i i3 (by omega) (by omega)).trans (hk6 i (by omega))) (by omega) (Nat.le_refl _)) ((e4 _ (by omega) (by omega) (by omega)).trans h0b) ⟨dd1,dd2,dd3.set hz2,dd4⟩ (hg3.keep ((e4 _ (by omega) (by omega) (by omega)).trans (hk6 _ (by omega)))) (fun z hz hne=>((e4 _ (by omega) (by omega) (by omega)).trans (hk6 _ (by omega))).trans (hl3 z hz hne))
    ·rw[List.nodup_cons,List.nodup_append]
     refine⟨fun hm=>?_,k3,by simp,fun x hx y hy e=>?_⟩
     ·rcases List.mem_append.1 hm with hm|hm
      ·have:=g3 _ (k2 _ hm);omega
      simp at hm
     have:=g3 _ (k2 _ hx);simp at hy;omega
    intro i hi
    rcases List.mem_cons.1 hi with rfl|hi
    ·omega
    rcases List.mem_append.1 hi with hi|hi
    ·have:=g3 _ (k2 _ hi);omega
    simp at hi;omega
   refine hN _ ?_;simp only[thn,blk];refine hN1 _ ?_;try clear hN1 N1
   refine AW.sr envOk (fun N hN=>?_);simp-dsimp-implicitDefEqProofs (disch:=omega)only[go_sem,prs,hr1,hP1,hB1,hbb,h0b,dl_ne,Bool.and_true];refine hN _ ?_;try clear hN N
   refine AW.ret ?_;simp-dsimp-implicitDefEqProofs (disch:=omega)only[go_sem];refine finr ?_ hsn _ (fun z hz=>upd_ne _ _ hz)
   first
   |exact fin0 _ (by simp(disch:=omega)only[upd_same,upd_ne]) (fun z z1 z2 z3=>by simp(disch:=omega)only[upd_ne,dl_ne])
   |exact fin2 _ (by simp(disch:=omega)only[upd_same,upd_ne];rw[List.take_of_length_le (by simp)]) (by simp(disch:=omega)only[upd_same,upd_ne]) (fun z z1 z2=>by simp(disch:=omega)only[upd_ne];exact hk5 z z1)
   |exact fin3 _ (by simp(disch:=omega)only[upd_same,upd_ne,dl_ne]) (by simp(disch:=omega)only[upd_same,upd_ne,dl_ne];exact f10) (by simp(disch:=omega)only[upd_same,upd_ne,dl_ne]) (fun z z1 z2 z3=>by simp(disch:=omega)only[upd_ne,dl_ne])
   |exact fin4 _ (fun z z1=>upd_ne _ _ z1)
   |exact fin1
  try simp only[cn]at h10
  refine AW.skip ?_;simp only[thn,blk];refine hN1 _ ?_;try clear hN1 N1
  refine AW.sr envOk (fun N hN=>?_);simp-dsimp-implicitDefEqProofs (disch:=omega)only[go_sem,prs,hr1,hP1,hB1,hbb,h0b,dl_ne,Bool.and_true];refine hN _ ?_;try clear hN N
  refine AW.ret ?_;simp-dsimp-implicitDefEqProofs (disch:=omega)only[go_sem];refine finr ?_ hsn _ (fun z hz=>upd_ne _ _ hz)
  first
  |exact fin0 _ (by simp(disch:=omega)only[upd_same,upd_ne]) (fun z z1 z2 z3=>by simp(disch:=omega)only[upd_ne,dl_ne])
  |exact fin2 _ (by simp(disch:=omega)only[upd_same,upd_ne];rw[List.take_of_length_le (by simp)]) (by simp(disch:=omega)only[upd_same,upd_ne]) (fun z z1 z2=>by simp(disch:=omega)only[upd_ne];exact hk5 z z1)
  |exact fin3 _ (by simp(disch:=omega)only[upd_same,upd_ne,dl_ne]) (by simp(disch:=omega)only[upd_same,upd_ne,dl_ne];exact f10) (by simp(disch:=omega)only[upd_same,upd_ne,dl_ne]) (fun z z1 z2 z3=>by simp(disch:=omega)only[upd_ne,dl_ne])
  |exact fin4 _ (fun z z1=>upd_ne _ _ z1)
  |exact fin1
 try simp only[cn]at h9
 refine AW.sr envOk (fun N hN=>?_);simp-dsimp-implicitDefEqProofs (disch:=omega)only[go_sem,prs];refine(spec_l07Trivial_b [7,7,7,7] (by simp) _ (.cons (vw_own (os:=[7,7,7,7]) (upd_same _ _ _) rfl) .nil)).mono2 ?_
 rintro m7 H7 r7 hm7 ⟨⟨r9,P9,B9,rfl,hpg9⟩,hk7⟩
 obtain⟨hr1,hP1,hB1⟩:=hpg9.ones
 have hk8:∀z,z<m2→H7 z=H2 z:=fun z hz=>(hk7 z (by omega)).trans (upd_ne _ _ (by omega))
 have hb7:=(hk8 bx (by omega)).trans hb2
 try simp-dsimp-implicitDefEqProofs (disch:=omega)only[go_sem,prs,hr1,hP1,hB1,hb7,Bool.and_true]
 refine hN _ ?_;try clear hN N
 refine AW.nameH (fun G7 hG7=>?_);dsimp only at hG7
 have hbb:G7 bx=some [r9,P9,B9]:=by rw[←hG7,upd_same]
 have h07:G7 (nx+1)=some [.nl,.nl,.nl]:=by rw[←hG7,upd_ne _ _ (by omega)];exact(hk8 _ (by omega)).trans h02
 have hg7:srcOk bs sid G7:=hg2.keep (by rw[←hG7,upd_ne _ _ (by omega)];exact hk8 _ (by omega))
 have hl7:∀z,z<nx→z≠sid→G7 z=H z:=fun z hz hne=>by rw[←hG7,upd_ne _ _ (by omega),hk8 z (by omega)];exact hl2 z hz hne
 replace hpg9:=hpg9.keep (H':=G7) (m':=m7) (fun z z1 z2=>by rw[←hG7,upd_ne _ _ (by omega)]) (Nat.le_refl _)
 clear hG7
 simp-dsimp-implicitDefEqProofs (disch:=omega)only[go_sem];refine AW.sr envOk (fun N hN=>?_);simp-dsimp-implicitDefEqProofs (disch:=omega)only[go_sem,prs];refine(spec_l01Next_s hg7 2 (by omega) _).mono2 ?_
 rintro m8 H8 r8 hm8 ⟨⟨x8,rfl,hx8⟩,hg8,hk9⟩
 replace hbb:=(hk9 bx (by omega) (by omega)).trans hbb
 have h0b:=(hk9 (nx+1) (by omega) (by omega)).trans h07
 have hl8:∀z,z<nx→z≠sid→H8 z=H z:=fun z hz hne=>(hk9 z (by omega) hne).trans (hl7 z hz hne)
 have fin1:bnd bs sid nx H H8 r9 P9 B9:= .mk ((hpg9.keep (H':=H8) (fun z z1 z2=>hk9 z (by omega) (by omega)) (Nat.le_refl _)).wide (by omega) (Nat.le_refl _)) h0b (drwP.tr (by simp) (by decide)) hg8 hl8
 try simp-dsimp-implicitDefEqProofs (disch:=omega)only[go_sem,prs]
 refine hN _ ?_;try clear hN N
 refine AW.cond rfl (fun h11=>?_) (fun h11=>?_)
 ·try simp only[cn]at h11
  refine AW.regionL envOk ?_;simp-dsimp-implicitDefEqProofs (disch:=omega)only[go_sem,prs];refine(spec_l07Trivial_b [2,2,2,2,2,2,2] (by simp) _ (.cons (vw_own (os:=[2,2,2,2,2,2,2]) (upd_same _ _ _) rfl) .nil)).mono2 ?_
  rintro m10 H10 r10 hm10 ⟨⟨r11,P11,B11,rfl,hpg11⟩,hk11⟩
  obtain⟨hr1,hP1,hB1⟩:=hpg11.ones
  have hk12:∀z,z<m8→H10 z=H8 z:=fun z hz=>(hk11 z (by omega)).trans (upd_ne _ _ (by omega))
  have hb10:=(hk12 bx (by omega)).trans hbb
  replace h0b:=(hk12 (nx+1) (by omega)).trans h0b
  have fin4:∀G9:HP,(∀z,z≠bx→G9 z=H10 z)→bnd bs sid nx H G9 r11 P11 B11:=fun G9 e=> .mk ((hpg11.keep (H':=G9) (fun z z1 z2=>e z (by omega)) (Nat.le_refl _)).wide (by omega) (Nat.le_refl _)) ((e _ (by omega)).trans h0b) (drwP.tr (by simp) (by decide)) (hg8.keep ((e _ (by omega)).trans (hk12 _ (by omega)))) (fun z hz hne=>((e _ (by omega)).trans (hk12 _ (by omega))).trans (hl8 z hz hne))
  try simp-dsimp-implicitDefEqProofs (disch:=omega)only[go_sem,prs,hr1,hP1,hB1,hb10,Bool.and_true]
  refine hN1 _ ?_;try clear hN1 N1
  refine AW.sr envOk (fun N hN=>?_);simp-dsimp-implicitDefEqProofs (disch:=omega)only[go_sem,prs,hr1,hP1,hB1,hbb,h0b,dl_ne,Bool.and_true];refine hN _ ?_;try clear hN N
  refine AW.ret ?_;simp-dsimp-implicitDefEqProofs (disch:=omega)only[go_sem];refine finr ?_ hsn _ (fun z hz=>upd_ne _ _ hz)
  first
  |exact fin0 _ (by simp(disch:=omega)only[upd_same,upd_ne]) (fun z z1 z2 z3=>by simp(disch:=omega)only[upd_ne,dl_ne])
  |exact fin2 _ (by simp(disch:=omega)only[upd_same,upd_ne];rw[List.take_of_length_le (by simp)]) (by simp(disch:=omega)only[upd_same,upd_ne]) (fun z z1 z2=>by simp(disch:=omega)only[upd_ne];exact hk5 z z1)
  |exact fin3 _ (by simp(disch:=omega)only[upd_same,upd_ne,dl_ne]) (by simp(disch:=omega)only[upd_same,upd_ne,dl_ne];exact f10) (by simp(disch:=omega)only[upd_same,upd_ne,dl_ne]) (fun z z1 z2 z3=>by simp(disch:=omega)only[upd_ne,dl_ne])
  |exact fin4 _ (fun z z1=>upd_ne _ _ z1)
  |exact fin1
 try simp only[cn]at h11
 refine AW.skip ?_;simp only[thn,blk];refine hN1 _ ?_;try clear hN1 N1
 refine AW.sr envOk (fun N hN=>?_);simp-dsimp-implicitDefEqProofs (disch:=omega)only[go_sem,prs,hr1,hP1,hB1,hbb,h0b,dl_ne,Bool.and_true];refine hN _ ?_;try clear hN N
 refine AW.ret ?_;simp-dsimp-implicitDefEqProofs (disch:=omega)only[go_sem];refine finr ?_ hsn _ (fun z hz=>upd_ne _ _ hz)
 first
 |exact fin0 _ (by simp(disch:=omega)only[upd_same,upd_ne]) (fun z z1 z2 z3=>by simp(disch:=omega)only[upd_ne,dl_ne])
 |exact fin2 _ (by simp(disch:=omega)only[upd_same,upd_ne];rw[List.take_of_length_le (by simp)]) (by simp(disch:=omega)only[upd_same,upd_ne]) (fun z z1 z2=>by simp(disch:=omega)only[upd_ne];exact hk5 z z1)
 |exact fin3 _ (by simp(disch:=omega)only[upd_same,upd_ne,dl_ne]) (by simp(disch:=omega)only[upd_same,upd_ne,dl_ne];exact f10) (by simp(disch:=omega)only[upd_same,upd_ne,dl_ne]) (fun z z1 z2 z3=>by simp(disch:=omega)only[upd_ne,dl_ne])
 |exact fin4 _ (fun z z1=>upd_ne _ _ z1)
 |exact fin1
theorem spec_l07Bend_s {bs:List Int} {sid:Nat} {H:HP} (hg:srcOk bs sid H) (os:List Int) (X:List (List Int)) (Y:List (List (List Int))) (h:presOk os X Y) (nx:Nat) (hsn:sid<nx):AC Tryz.prog 76 nx H [.q sid 0,prs os X Y] (sK bs sid nx H drwQ):=AC.zs hsn (spec_l07Bend_o hg os X Y h nx hsn)
end Go.Proofs.YtghmeeifjeafmaaGreat
