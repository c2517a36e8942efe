import Derived.Test.YtghmeeifjeafmaaGreatZ34
set_option linter.unusedVariables false
set_option linter.unusedSimpArgs false
namespace Go.Proofs.YtghmeeifjeafmaaGreat
open Nat (reduceAdd reduceSub reduceGT reduceEqDiff reduceMul)
theorem AW.fzLCx {cX:Ctx} {P:Program} {c:Code} {s:St} {K:Exit→St→Prop} {a b:Nat} (k:Nat) (L:AV) (cs:List AV) (hk:s.t[k]? =some L) (hL:LC s.H a b L cs)
    (hs:AW cX P c ⟨s.t.set k (.v cs.length cs),dl s.H L,s.nx⟩ K):AW cX P c s K:=by
  rcases hL with ⟨rfl,rfl⟩|⟨id,rfl,hc,_,_⟩
  · refine AW.fz (s':=⟨s.t.set k (.v 0 []),s.H,s.nx⟩) ⟨fzs_set hk .nl,?_,Nat.le_refl _⟩ hs
    intro id cs' h
    exact⟨cs',h,rfl,fun q x y h1 h2=>by rw[h1]at h2;cases h2;exact .refl _⟩
  exact AW.freeze k id cs.length cs hk hc rfl hs
structure ShB (N:Nat) (os:List Int) (X:List (List Int)) (Y:List (List (List Int))):Prop where
  o:os.length≤N
  p:X.length=os.length
  c:Y.length=os.length
  r:∀k,k<os.length→(Y.getD k []).length=os.length-1-k
  pl:∀x∈X,x.length≤6*N
  cl:∀y∈Y,∀x∈y,x.length≤6*N
  ob:∀x∈os,-1000≤x∧x≤1000
theorem ShB.more {N M:Nat} {os:List Int} {X:List (List Int)} {Y:List (List (List Int))} (h:ShB N os X Y) (hm:N≤M):ShB M os X Y:=⟨by have:=h.o;omega,h.p,h.c,h.r,fun x hx=>by have:=h.pl x hx;omega,fun y hy x hx=>by have:=h.cl y hy x hx;omega,h.ob⟩
theorem ShB.nil:ShB 0 [] [] []:=⟨by simp,rfl,rfl,by simp,by simp,by simp,by simp⟩
theorem getD_all {α:Type} {p:α→Prop} {X:List α} {d:α} (h:∀x∈X,p x) (hd:p d) (k:Nat):p (X.getD k d):=by
  by_cases hk:k<X.length
  · rw[List.getD_eq_getElem?_getD,List.getElem?_eq_getElem hk];exact h _ (List.getElem_mem hk)
  rw[List.getD_eq_getElem?_getD,List.getElem?_eq_none (by omega)];exact hd
theorem ShB.row {N:Nat} {os:List Int} {X:List (List Int)} {Y:List (List (List Int))} (h:ShB N os X Y) (k:Nat):(X.getD k []).length≤6*N:=getD_all h.pl (by simp) k
theorem ShB.rowC {N:Nat} {os:List Int} {X:List (List Int)} {Y:List (List (List Int))} (h:ShB N os X Y) (k l:Nat):((Y.getD k []).getD l []).length≤6*N:=
  getD_all (p:=fun x:List Int=>x.length≤6*N) (getD_all (p:=fun y:List (List Int)=>∀x∈y,x.length≤6*N) h.cl (by simp) k) (by simp) l
theorem ShB.setP {N k:Nat} {os:List Int} {X:List (List Int)} {Y:List (List (List Int))} {w:List Int} (h:ShB N os X Y) (hw:w.length≤6*N):ShB N os (X.set k w) Y:=⟨h.o,by rw[List.length_set];exact h.p,h.c,h.r,set_all h.pl hw,h.cl,h.ob⟩
theorem ShB.setB {N k l:Nat} {os:List Int} {X:List (List Int)} {Y:List (List (List Int))} {w:List Int} (h:ShB N os X Y) (hw:w.length≤6*N):ShB N os X (Y.set k ((Y.getD k []).set l w)):=by
  refine⟨h.o,h.p,by rw[List.length_set];exact h.c,fun j hj=>?_,h.pl,set_all h.cl (set_all (getD_all (p:=fun y:List (List Int)=>∀x∈y,x.length≤6*N) h.cl (by simp) k) hw),h.ob⟩
  by_cases e:j=k
  · subst e
    have h1:=h.c
    have h2:=h.r j hj
    rw[show(Y.set j ((Y.getD j []).set l w)).getD j []=(Y.getD j []).set l w by simp[show j<Y.length by omega],List.length_set];exact h2
  rw[show(Y.set k ((Y.getD k []).set l w)).getD j []=Y.getD j [] by rw[List.getD_eq_getElem?_getD,List.getElem?_set_ne (by omega),←List.getD_eq_getElem?_getD]]
  exact h.r j hj
theorem trShB {N:Nat} {os:List Int} (h:os.length≤N) (hN:N≤64) (hb:∀x∈os,-1000≤x∧x≤1000):ShB N os (trP os.length) (trC os.length):=by
  refine⟨h,trP_len _,trC_len _,fun k hk=>?_,fun x hx=>?_,fun y hy x hx=>?_,hb⟩
  · rw[show(trC os.length).getD k []=trR os.length k by simp[trC,hk],trR_len];omega
  · rw[(List.mem_replicate.1 hx).2];simp;omega
  obtain⟨i,_,rfl⟩:=List.mem_map.1 hy
  obtain⟨j,_,rfl⟩:=List.mem_map.1 hx
  rw[unL_len];omega
theorem spec_l07Trivial_rg (os:List Int) (hn:os.length≤1000) (nx:Nat) {H:HP} {xs:List AV} (hv:Vws H xs [ints os]):AC Tryz.prog 118 nx H xs (rgK nx H os (trP os.length) (trC os.length)):=AC.rg (spec_l07Trivial_w os hn nx) hv
theorem spec_l07Unit_p (n j:Nat) (hn:n≤1048576) (hj:j<n):ACp Tryz.prog 149 [.i .i64 n,.i .i64 j] (ints (unL n j)):=(spec_l07Unit_o n j hn hj).pure
def preQ (N:Nat) (r:AV):Prop:=∃os X Y,r=prs os X Y∧ShB N os X Y
def prcQ (N:Nat) (r:AV):Prop:=∃os X Y e,r= .t [prs os X Y,.i .i64 e]∧ShB N os X Y
theorem fz_nil3 {H H2:HP}:Fz H H2 (.g [.nl,.nl,.nl]) (prs [] [] []):= .g _ _ rfl fun k x y hx hy=>by
  match k,hx,hy with
  |0,hx,hy=>cases hx;cases hy;exact .nl
  |1,hx,hy=>cases hx;cases hy;exact .nl
  |2,hx,hy=>cases hx;cases hy;exact .nl
structure BxP (N lo m bx:Nat) (os:List Int) (P B:AV) (bc:List AV) (X:List (List Int)) (Y:List (List (List Int))) (G:HP):Prop where
  cl:G bx=some [ints os,P,B]
  rg:RgP lo m P B X Y bc G
  sh:ShB N os X Y
  lt:bx<lo
theorem BxP.keep {N lo m m' bx:Nat} {os:List Int} {P B:AV} {bc:List AV} {X:List (List Int)} {Y:List (List (List Int))} {G G':HP} (h:BxP N lo m bx os P B bc X Y G) (hk:∀i,i<m→G' i=G i) (hlm:lo≤m) (hm:m≤m'):BxP N lo m' bx os P B bc X Y G':=
  ⟨(hk bx (by have:=h.lt;omega)).trans h.cl,h.rg.keep (fun i _ hi=>hk i hi) (Nat.le_refl _) hm,h.sh,h.lt⟩
theorem BxP.ones {N lo m bx:Nat} {os:List Int} {P B:AV} {bc:List AV} {X:List (List Int)} {Y:List (List (List Int))} {G:HP} (h:BxP N lo m bx os P B bc X Y G):one P=true∧one B=true:=⟨h.rg.p.one,h.rg.b.one⟩
theorem BxP.setP {N lo m bx k:Nat} {os:List Int} {P B:AV} {bc:List AV} {X:List (List Int)} {Y:List (List (List Int))} {G:HP} (h:BxP N lo m bx os P B bc X Y G) (hk:k<os.length):
    ∃p,P= .h p 0 os.length∧G bx=some [ints os,.h p 0 os.length,B]∧G p=some (X.map ints)∧(X.map ints).length=os.length∧(lo≤p∧p<m)∧∀(w:List Int) (m':Nat),w.length≤6*N→m≤m'→BxP N lo m' bx os P B bc (X.set k w) Y (upd G p (some (splice (X.map ints) k [ints w]))):=by
  obtain⟨h1,h2,h3,h4⟩:=h
  obtain⟨p,e,g1,g2,g3⟩:=h2.setP (k:=k) (by rw[h3.p];exact hk)
  rw[h3.p]at e
  refine⟨p,e,by rw[h1,e],g1,by rw[List.length_map,h3.p],g2,fun w m' hw hm=>⟨?_,g3 _ w lo m' (upd_same _ _ _) (fun j _ _ hj=>upd_ne _ _ hj) (Nat.le_refl _) hm,h3.setP hw,h4⟩⟩
  rw[upd_ne _ _ (by omega),h1]
theorem BxP.setB {N lo m bx k l:Nat} {os:List Int} {P B:AV} {bc:List AV} {X:List (List Int)} {Y:List (List (List Int))} {G:HP} (h:BxP N lo m bx os P B bc X Y G) (hk:k<os.length) (hl:l<os.length-1-k):
    ∃ b q,B= .h b 0 os.length∧G bx=some [ints os,P,.h b 0 os.length]∧G b=some bc∧bc.length=os.length∧(lo≤b∧b<m)∧bc.getD k .j= .h q 0 (os.length-1-k)∧G q=some ((Y.getD k []).map ints)∧((Y.getD k []).map ints).length=os.length-1-k∧(lo≤q∧q<m)∧b≠q∧
      ∀(w:List Int) (m':Nat),w.length≤6*N→m≤m'→BxP N lo m' bx os P B bc X (Y.set k ((Y.getD k []).set l w)) (upd G q (some (splice ((Y.getD k []).map ints) l [ints w]))):=by
  obtain⟨h1,h2,h3,h4⟩:=h
  have hr:=h3.r k hk
  obtain⟨b,q,e,g1,g2,_,g4,g5,g6,g7,g8⟩:=h2.setB (k:=k) (l:=l) (by rw[h3.c];exact hk) (by omega)
  rw[h3.c]at e
  rw[hr]at g4
  refine⟨b,q,e,by rw[h1,e],g1,by rw[h2.bl,h3.c],g2,g4,g5,by rw[List.length_map,hr],g6,g7,fun w m' hw hm=>⟨?_,g8 _ w lo m' (upd_same _ _ _) (fun j _ _ hj=>upd_ne _ _ hj) (Nat.le_refl _) hm,h3.setB hw,h4⟩⟩
  rw[upd_ne _ _ (by omega),h1]
theorem BxP.start {N nx m bx:Nat} {os:List Int} {r:AV} {G0 H1:HP} (h:rgK nx G0 os (trP os.length) (trC os.length) m H1 r) (ho:os.length≤N) (hN:N≤64) (hb:∀x∈os,-1000≤x∧x≤1000) (hbx:bx<nx):
    ∃P B bc,r= .g [ints os,P,B]∧one P=true∧one B=true∧(∀i,i<nx→H1 i=G0 i)∧BxP N nx m bx os P B bc (trP os.length) (trC os.length) (upd H1 bx (some [ints os,P,B])):=by
  obtain⟨P,B,bc,e,h1,h2⟩:=h
  exact⟨P,B,bc,e,h1.p.one,h1.b.one,h2,upd_same _ _ _,h1.keep (fun j _ _=>upd_ne _ _ (by omega)) (Nat.le_refl _) (Nat.le_refl _),trShB ho hN hb,hbx⟩
theorem BxP.fz {N lo m bx n:Nat} {os:List Int} {P B:AV} {bc:List AV} {X:List (List Int)} {Y:List (List (List Int))} {G G':HP} (h:BxP N lo m bx os P B bc X Y G) (hk:∀i,lo≤i→G' i=G i) (hn:n≤lo):Fz G' (blw n G') (.g [ints os,P,B]) (prs os X Y):=(h.rg.keep (fun i hi _=>hk i hi) (Nat.le_refl _) (Nat.le_refl _)).fz hn
set_option maxHeartbeats 2000000 in
theorem spec_CyclicPresentation_o (n:Int) (h0:1≤n) (h6:n≤64):∀nx,AC Tryz.prog 143 nx noH [.i .i64 n] (fun nx' H' r=>∃r2,Fz H' (blw nx H') r r2∧prcQ 6 r2):=by
 intro nx
 refine AC.intro' envOk Tryz.func143 rfl (by kernel_rfl) Tryz.ntmps143 Tryz.results143 (fun cX=>?_)
 refine AW.sr envOk (fun N hN=>?_);simp-dsimp-implicitDefEqProofs (disch:=omega)only[go_sem,prs,ints];refine hN _ ?_;try clear hN N
 refine AW.seq (fun N1 hN1=>?_);refine AW.sr envOk (fun N hN=>?_);simp-dsimp-implicitDefEqProofs (disch:=omega)only[go_sem,prs,ints];refine AC.pure (.of (spec_l01In_ok n 1 729)) ?_;try simp-dsimp-implicitDefEqProofs (disch:=omega)only[go_sem,prs,ints]
 refine hN _ ?_;try clear hN N
 refine AW.cond rfl (fun h1=>?_) (fun h1=>?_)
 ·try simp only[cn]at h1
  omega
 try simp only[cn]at h1
 refine AW.skip ?_;simp only[thn,blk];refine hN1 _ ?_;try clear hN1 N1
 refine AW.sr envOk (fun N hN=>?_);simp-dsimp-implicitDefEqProofs (disch:=omega)only[go_sem,prs,ints];refine(spec_l07Factors_z n h0 (by omega) _ _).mono2 ?_
 rintro m1 H1 r1 hm1 ⟨⟨fs,b,rfl,hp,hfs⟩,hlow1⟩
 have h01:H1 nx=some [.nl,.nl,.nl]:=(hlow1 nx (by omega)).trans (upd_same _ _ _)
 have hfl:=(pow_len hp (by omega)).2 h6
 try simp-dsimp-implicitDefEqProofs (disch:=omega)only[go_sem,ints]
 refine hN _ ?_;try clear hN N
 refine AW.seq (fun N2 hN2=>?_);refine AW.sr envOk (fun N hN=>?_);simp-dsimp-implicitDefEqProofs (disch:=omega)only[go_sem,prs,ints];refine hN _ ?_;try clear hN N
 refine AW.cond rfl (fun h2=>?_) (fun h2=>?_)
 ·try simp only[cn]at h2
  refine AW.sr envOk (fun N hN=>?_);simp-dsimp-implicitDefEqProofs (disch:=omega)only[go_sem,prs,ints,h01];refine hN _ ?_;try clear hN N
  refine AW.ret ?_;simp-dsimp-implicitDefEqProofs (disch:=omega)only[go_sem];exact⟨_,Fz.t2 fz_nil3,[],[],[],_,rfl,ShB.nil.more (by omega)⟩
 try simp only[cn]at h2
 refine AW.skip ?_;simp only[thn,blk];refine hN2 _ ?_;try clear hN2 N2
 refine AW.seq (fun N3 hN3=>?_);refine AW.sr envOk (fun N hN=>?_);simp-dsimp-implicitDefEqProofs (disch:=omega)only[go_sem,prs,ints];refine hN _ ?_;try clear hN N
 refine AW.cond rfl (fun h3=>?_) (fun h3=>?_)
 ·try simp only[cn]at h3
  omega
 try simp only[cn]at h3
 refine AW.skip ?_;simp only[thn,blk];refine hN3 _ ?_;try clear hN3 N3
 refine AW.sr envOk (fun N hN=>?_);simp-dsimp-implicitDefEqProofs (disch:=omega)only[go_sem,prs,ints];refine(spec_l07Trivial_rg fs (by omega) _ (.cons (.refl _) .nil)).mono2 ?_
 intro m2 H2 r2 hm2 hrg
 obtain⟨P,B,bc,rfl,hP1,hB1,hlow2,hbx⟩:=BxP.start (bx:=m1+2+3+2) hrg hfl (by omega) (fun x hx=>by have:=hfs x hx;omega) (by omega)
 try simp-dsimp-implicitDefEqProofs (disch:=omega)only[go_sem,hP1,hB1,ints,Bool.and_true]
 refine hN _ ?_;try clear hN N
 refine AW.seq (fun N4 hN4=>?_);refine AW.nameH (fun G0 hG0=>?_);dsimp only at hG0
 have hb0:BxP 6 (m1+2+3+4) m2 (m1+2+3+2) fs P B bc (trP fs.length) (trC fs.length) G0:=by rw[←hG0];exact hbx
 have h00:G0 nx=some [.nl,.nl,.nl]:=by rw[←hG0,upd_ne _ _ (by omega)];exact(hlow2 nx (by omega)).trans h01
 refine AW.sr envOk (fun N hN=>?_);simp-dsimp-implicitDefEqProofs (disch:=omega)only[go_sem,prs,ints];refine hN _ ?_;try clear hN N
 refine AW.block ?_;refine AW.loopN (α:=Nat×HP×List (List Int)×List (List (List Int))) (fun x=>sl 43 [(2,.q nx 0),(3,.i .i64 0),(4,ints fs),(6,.q (m1+2+3+2) 0),(7,.i .i64 x.1)]) (fun x=>x.2.1) (fun x m=>(x.1≤fs.length∧m2≤m)∧x.2.1 nx=some [.nl,.nl,.nl]∧BxP 6 (m1+2+3+4) m (m1+2+3+2) fs P B bc x.2.2.1 x.2.2.2 x.2.1) (fun x=>fs.length-x.1) ((0,G0,trP fs.length,trC fs.length)) ?_ ?_ (fun _ _ h=>h) ?_
 ·exact⟨⟨by simp,by first|omega|(simp only;omega)|(dsimp only;omega)⟩,h00,hb0.keep (fun _ _=>rfl) (by omega) (by first|omega|(simp only;omega)|(dsimp only;omega))⟩
 ·simp(disch:=omega) [wks,wkA,sl,w64,ints,rows,cubes,w64,prs,ints]<;>omega
 skip
 rintro⟨i,G,X,Y⟩ m ⟨⟨hi,hm⟩,hG0,hbx⟩
 simp-dsimp-implicitDefEqProofs (disch:=omega)only[go_sem];dsimp only at hi hm hG0 hbx ⊢
 refine AW.seq (fun N5 hN5=>?_);refine AW.sr envOk (fun N hN=>?_);simp-dsimp-implicitDefEqProofs (disch:=omega)only[go_sem,prs,ints];refine hN _ ?_;try clear hN N
 refine AW.cond rfl (fun h4=>?_) (fun h4=>?_)
 ·try simp only[cn]at h4
  obtain⟨p,hPe,hbp,hp1,hp2,hp3,hput⟩:=hbx.setP (k:=i) (by omega)
  have hlt:=hbx.lt
  refine AW.skip ?_;simp only[thn,blk];refine hN5 _ ?_;try clear hN5 N5
  refine AW.seq (fun N6 hN6=>?_);refine AW.block ?_;refine AW.drawL envOk (by kernel_rfl) 9 (by kernel_rfl) ?_
  simp-dsimp-implicitDefEqProofs (disch:=omega)only[hr_nil,hr_one,hr_if,List.take_succ_cons,List.take_zero,List.drop_succ_cons,List.drop_zero,List.take_nil,List.drop_nil,go_sem,undef,w64,prs,ints,hbp,hp1,hp2];refine⟨_,.of (spec_l07Unit_p fs.length (i+1) (by omega) (by omega)),?_⟩
  try simp-dsimp-implicitDefEqProofs (disch:=omega)only[go_sem,prs,ints,hbp,hp1,hp2]
  refine hN6 _ ?_;try clear hN6 N6
  refine AW.nameH (fun G3 hG3=>?_);dsimp only at hG3
  refine AW.regionL envOk ?_;simp-dsimp-implicitDefEqProofs (disch:=omega)only[go_sem,prs,ints];refine⟨(i+1,G3,X.set i (unL fs.length (i+1)),Y),?_,fun _ _ h=>h,?_,?_⟩
  ·simp(disch:=omega) [wks,wkA,sl,w64,ints,rows,cubes,w64,prs,ints]<;>omega
  ·have hb3:BxP 6 (m1+2+3+4) (m+5+10+3) (m1+2+3+2) fs P B bc (X.set i (unL fs.length (i+1))) Y G3:=by rw[←hG3];exact hput _ _ (by rw[unL_len];omega) (by omega)
   have hG30:G3 nx=some [.nl,.nl,.nl]:=by rw[←hG3,upd_ne _ _ (by omega)];exact hG0
   first|exact⟨⟨by first|omega|(simp only;omega)|(dsimp only;omega),by first|omega|(simp only;omega)|(dsimp only;omega)⟩,hG30,hb3⟩|exact⟨by first|omega|(simp only;omega)|(dsimp only;omega),hG30,hb3⟩
  first|omega|(simp only;omega)
 try simp only[cn]at h4
 have hbb:=hbx.cl
 have hlt:=hbx.lt
 refine AW.exit ?_;simp only[thn,blk,if_true];refine hN4 _ ?_;try clear hN4 N4
 refine AW.sr envOk (fun N hN=>?_);simp-dsimp-implicitDefEqProofs (disch:=omega)only[go_sem,prs,ints,hbb,hG0,hbx.ones.1,hbx.ones.2];refine hN _ ?_;try clear hN N
 refine AW.ret ?_;simp-dsimp-implicitDefEqProofs (disch:=omega)only[go_sem];exact⟨_,Fz.t2 (hbx.fz (fun i hi=>upd_ne _ _ (by omega)) (by omega)),fs,X,Y,_,rfl,hbx.sh⟩
theorem spec_CyclicPresentation_z (n:Int) (h0:1≤n) (h6:n≤64) (nx:Nat) (H:HP):AC Tryz.prog 143 nx H [.i .i64 n] (zK nx H (prcQ 6)):=AC.zz (spec_CyclicPresentation_o n h0 h6 nx) H
theorem own_cells (a b:List Int):List.take a.length (ivs a.length fun k=>a.getD k 0)++b.map (AV.i .i64)=(a++b).map (.i .i64):=by
  rw[←map_ivs,List.take_of_length_le (by simp),List.map_append]
theorem spec_l07Digits_p (os:List Int) (k:Nat) (x:Int) (hn:os.length≤1000) (hk:k≤os.length) (ho:∀i,i<os.length→2≤os.getD i 0∧os.getD i 0≤1000) (hx:0≤x∧x≤1000000):ACp Tryz.prog 155 [ints os,.i .i64 k,.i .i64 x] (ints (dgV os k x)):=(spec_l07Digits_o os k x hn hk ho hx).pure
theorem spec_l07Shift_p (b:Nat) (v:List Int) (e:Nat) (hb:b≤1000) (hv:v.length≤1000) (he:e≤1000):ACp Tryz.prog 148 [.i .i64 b,ints v,.i .i64 e] (ints (shL b v e)):=(spec_l07Shift_o b v e hb hv he).pure
set_option maxHeartbeats 4000000 in
theorem spec_l07Meta_o (n q r0 s0:Int) (hn:1≤n∧n≤64) (hq:1≤q∧q≤64) (hr:0≤r0∧r0≤64) (hs:0≤s0∧s0≤64):∀nx,AC Tryz.prog 144 nx noH [.i .i64 n,.i .i64 q,.i .i64 r0,.i .i64 s0] (fun nx' H' r=>∃r2,Fz H' (blw nx H') r r2∧preQ 12 r2):=by
 have hz:¬q=0:=by omega
 intro nx
 refine AC.intro' envOk Tryz.func144 rfl (by kernel_rfl) Tryz.ntmps144 Tryz.results144 (fun cX=>?_)
 refine AW.sr envOk (fun N hN=>?_);simp-dsimp-implicitDefEqProofs (disch:=omega)only[go_sem,prs,ints,hz];refine hN _ ?_;try clear hN N
 refine AW.sr envOk (fun N hN=>?_);simp-dsimp-implicitDefEqProofs (disch:=omega)only[go_sem,prs,ints,hz];refine(spec_l07Factors_z n hn.1 (by omega) _ _).mono2 ?_
 rintro m1 H1 r1 hm1 ⟨⟨fs1,b1,rfl,hp1,hfs1⟩,hlow1⟩
 have hfl1:=(pow_len hp1 (by omega)).2 hn.2
 try simp-dsimp-implicitDefEqProofs (disch:=omega)only[go_sem,ints]
 refine hN _ ?_;try clear hN N
 refine AW.sr envOk (fun N hN=>?_);simp-dsimp-implicitDefEqProofs (disch:=omega)only[go_sem,prs,ints,hz];refine(spec_l07Factors_z q hq.1 (by omega) _ _).mono2 ?_
 rintro m2 H2 r2 hm2 ⟨⟨fs2,b2,rfl,hp2,hfs2⟩,hlow2⟩
 have hfl2:=(pow_len hp2 (by omega)).2 hq.2
 have h02:H2 nx=some [.nl,.nl,.nl]:=(hlow2 nx (by omega)).trans ((hlow1 nx (by omega)).trans (upd_same _ _ _))
 try simp-dsimp-implicitDefEqProofs (disch:=omega)only[go_sem,ints]
 refine hN _ ?_;try clear hN N
 refine AW.sr envOk (fun N hN=>?_);simp-dsimp-implicitDefEqProofs (disch:=omega)only[go_sem,prs,ints,hz];refine(spec_l01Own_ok fs1 (by omega) _ _).mono2 ?_
 rintro m3 H3 r3 hm3 ⟨id3,rfl,hi1,hi2,rfl⟩
 try simp-dsimp-implicitDefEqProofs (disch:=omega)only[go_sem,prs,ints,hz]
 refine hN _ ?_;try clear hN N
 obtain⟨os,hos⟩:∃os,fs1++fs2=os:=⟨_,rfl⟩
 have hol:os.length=fs1.length+fs2.length:=by rw[←hos,List.length_append]
 have hob:∀x∈os,2≤x∧x≤7:=fun x hx=>by
  rw[←hos]at hx
  rcases List.mem_append.1 hx with h|h
  ·exact hfs1 x h
  exact hfs2 x h
 have hoi:∀i,i<os.length→2≤os.getD i 0∧os.getD i 0≤1000:=fun i hi=>by
  rw[List.getD_eq_getElem?_getD,List.getElem?_eq_getElem hi]
  have:=hob _ (List.getElem_mem hi);simp;omega
 refine AW.freeze 13 (m2+3) (fs1.length+fs2.length) (os.map (.i .i64)) rfl (by dsimp only;rw[upd_same,own_cells,hos]) (by rw[List.length_map,hol]) ?_
 rw[←hol]
 refine AW.nameH (fun G0 hG0=>?_);dsimp only at hG0
 have h0n:G0 nx=some [.nl,.nl,.nl]:=by rw[←hG0];simp(disch:=omega)only[upd_ne];exact h02
 simp-dsimp-implicitDefEqProofs (disch:=omega)only[go_sem];refine AW.sr envOk (fun N hN=>?_);simp-dsimp-implicitDefEqProofs (disch:=omega)only[go_sem,prs,ints,hz];refine(spec_l07Trivial_rg os (by omega) _ (.cons (.refl _) .nil)).mono2 ?_
 intro m4 H4 r4 hm4 hrg
 obtain⟨P,B,bc,rfl,hP1,hB1,hlow4,hbx⟩:=BxP.start (N:=12) (bx:=m3+2) hrg (by omega) (by omega) (fun x hx=>by have:=hob x hx;omega) (by omega)
 try simp-dsimp-implicitDefEqProofs (disch:=omega)only[go_sem,hP1,hB1,ints,Bool.and_true]
 refine hN _ ?_;try clear hN N
 refine AW.sr envOk (fun N hN=>?_);simp-dsimp-implicitDefEqProofs (disch:=omega)only[go_sem,prs,ints,hz];refine hN _ ?_;try clear hN N
 refine AW.seq (fun N1 hN1=>?_);refine AW.nameH (fun G1 hG1=>?_);dsimp only at hG1
 have hb0:BxP 12 (m3+4) m4 (m3+2) os P B bc (trP os.length) (trC os.length) G1:=by rw[←hG1];exact hbx
 have h10:G1 nx=some [.nl,.nl,.nl]:=by rw[←hG1,upd_ne _ _ (by omega)];exact(hlow4 nx (by omega)).trans h0n
 refine AW.sr envOk (fun N hN=>?_);simp-dsimp-implicitDefEqProofs (disch:=omega)only[go_sem,prs,ints,hz];refine hN _ ?_;try clear hN N
 refine AW.block ?_;refine AW.loopN (α:=Nat×HP×List (List Int)) (fun x=>sl 106 [(1,.i .i64 q),(2,.i .i64 r0),(3,.i .i64 s0),(8,.q nx 0),(9,ints fs1),(13,ints os),(14,.q (m3+2) 0),(15,.i .i64 fs1.length),(16,.i .i64 x.1)]) (fun x=>x.2.1) (fun x m=>(x.1≤os.length∧m4≤m)∧x.2.1 nx=some [.nl,.nl,.nl]∧BxP 12 (m3+4) m (m3+2) os P B bc x.2.2 (trC os.length) x.2.1) (fun x=>os.length-x.1) ((0,G1,trP os.length)) ?_ ?_ (fun _ _ h=>h) ?_
 ·exact⟨⟨by simp,by first|omega|(simp only;omega)|(dsimp only;omega)⟩,h10,hb0.keep (fun _ _=>rfl) (by omega) (by first|omega|(simp only;omega)|(dsimp only;omega))⟩
 ·simp(disch:=omega) [wks,wkA,sl,w64,ints,rows,cubes,w64,prs,ints,hz]<;>omega
 skip
 rintro⟨i,G,X⟩ m ⟨⟨hi,hm⟩,hG0,hbx⟩
 simp-dsimp-implicitDefEqProofs (disch:=omega)only[go_sem];dsimp only at hi hm hG0 hbx ⊢
 have hlt:=hbx.lt
 refine AW.seq (fun N2 hN2=>?_);refine AW.sr envOk (fun N hN=>?_);simp-dsimp-implicitDefEqProofs (disch:=omega)only[go_sem,prs,ints,hz];refine hN _ ?_;try clear hN N
 refine AW.cond rfl (fun h1=>?_) (fun h1=>?_)
 ·try simp only[cn]at h1
  obtain⟨p,hPe,hbp,hp1,hp2,hp3,hput⟩:=hbx.setP (k:=i) (by omega)
  refine AW.skip ?_;simp only[thn,blk];refine hN2 _ ?_;try clear hN2 N2
  refine AW.seq (fun N3 hN3=>?_);refine AW.block ?_;refine AW.sr envOk (fun N hN=>?_);simp-dsimp-implicitDefEqProofs (disch:=omega)only[go_sem,prs,ints,hz];refine hN _ ?_;try clear hN N
  refine AW.cond rfl (fun h2=>?_) (fun h2=>?_)
  ·try simp only[cn]at h2
   refine AW.drawL envOk (by kernel_rfl) 9 (by kernel_rfl) ?_
   simp-dsimp-implicitDefEqProofs (disch:=omega)only[hr_nil,hr_one,hr_if,List.take_succ_cons,List.take_zero,List.drop_succ_cons,List.drop_zero,List.take_nil,List.drop_nil,go_sem,undef,w64,prs,ints,hz,hbp,hp1,hp2];refine⟨_,.of (spec_l07Unit_p os.length (i+1) (by omega) (by omega)),?_⟩
   try simp-dsimp-implicitDefEqProofs (disch:=omega)only[go_sem,prs,ints,hbp,hp1,hp2]
   refine hN3 _ ?_;try clear hN3 N3
   refine AW.nameH (fun G3 hG3=>?_);dsimp only at hG3
   refine AW.regionL envOk ?_;simp-dsimp-implicitDefEqProofs (disch:=omega)only[go_sem,prs,ints,hz];refine⟨(i+1,G3,X.set i (unL os.length (i+1))),?_,fun _ _ h=>h,?_,?_⟩
   ·simp(disch:=omega) [wks,wkA,sl,w64,ints,rows,cubes,w64,prs,ints,hz]<;>omega
   ·have hb3:BxP 12 (m3+4) (m+5+4+10+3) (m3+2) os P B bc (X.set i (unL os.length (i+1))) (trC os.length) G3:=by rw[←hG3];exact hput _ _ (by rw[unL_len];omega) (by omega)
    have hG30:G3 nx=some [.nl,.nl,.nl]:=by rw[←hG3,upd_ne _ _ (by omega)];exact hG0
    first|exact⟨⟨by first|omega|(simp only;omega)|(dsimp only;omega),by first|omega|(simp only;omega)|(dsimp only;omega)⟩,hG30,hb3⟩|exact⟨by first|omega|(simp only;omega)|(dsimp only;omega),hG30,hb3⟩
   first|omega|(simp only;omega)
  try simp only[cn]at h2
  refine AW.skip ?_;simp only[thn,blk];refine hN3 _ ?_;try clear hN3 N3
  refine AW.nameH (fun G3 hG3=>?_);dsimp only at hG3
  refine AW.regionL envOk ?_;simp-dsimp-implicitDefEqProofs (disch:=omega)only[go_sem,prs,ints,hz];refine⟨(i+1,G3,X),?_,fun _ _ h=>h,?_,?_⟩
  ·simp(disch:=omega) [wks,wkA,sl,w64,ints,rows,cubes,w64,prs,ints,hz]<;>omega
  ·rw[hG3]at hG0 hbx
   have hb3:=hbx.keep (m':=m+5+4+3) (fun _ _=>rfl) (by omega) (by omega)
   first|exact⟨⟨by first|omega|(simp only;omega)|(dsimp only;omega),by first|omega|(simp only;omega)|(dsimp only;omega)⟩,hG0,hb3⟩|exact⟨by first|omega|(simp only;omega)|(dsimp only;omega),hG0,hb3⟩
  first|omega|(simp only;omega)
 try simp only[cn]at h1
 refine AW.exit ?_;simp only[thn,blk,if_true];refine hN1 _ ?_;try clear hN1 N1
 refine AW.seq (fun N4 hN4=>?_);refine AW.sr envOk (fun N hN=>?_);simp-dsimp-implicitDefEqProofs (disch:=omega)only[go_sem,prs,ints,hz];refine hN _ ?_;try clear hN N
 refine AW.cond rfl (fun h3=>?_) (fun h3=>?_)
 ·try simp only[cn]at h3
  obtain⟨p,hPe,hbp,hp1,hp2,hp3,hput⟩:=hbx.setP (k:=fs1.length-1) (by omega)
  have ek:((fs1.length:Int)-1).toNat=fs1.length-1:=by omega
  refine AW.drawL envOk (by kernel_rfl) 9 (by kernel_rfl) ?_
  simp-dsimp-implicitDefEqProofs (disch:=omega)only[hr_nil,hr_one,hr_if,List.take_succ_cons,List.take_zero,List.drop_succ_cons,List.drop_zero,List.take_nil,List.drop_nil,go_sem,undef,w64,prs,ints,hz,hbp,hp1,hp2,ek];refine⟨_,.of (spec_l07Digits_p os fs1.length s0 (by omega) (by omega) hoi (by omega)),?_⟩
  try simp-dsimp-implicitDefEqProofs (disch:=omega)only[go_sem,prs,ints,hbp,hp1,hp2,ek]
  refine hN4 _ ?_;try clear hN4 N4
  refine AW.nameH (fun G3 hG3=>?_);dsimp only at hG3
  refine AW.sr envOk (fun N hN=>?_);simp-dsimp-implicitDefEqProofs (disch:=omega)only[go_sem,prs,ints,hz];refine hN _ ?_;try clear hN N
  refine AW.seq (fun N5 hN5=>?_);refine AW.sr envOk (fun N hN=>?_);simp-dsimp-implicitDefEqProofs (disch:=omega)only[go_sem,prs,ints,hz];refine hN _ ?_;try clear hN N
  refine AW.block ?_;obtain⟨X1,hX1⟩:∃X1,X.set (fs1.length-1) (dgV os fs1.length s0)=X1:=⟨_,rfl⟩
  obtain⟨mm,hmm⟩:∃mm,m+5+2+10+4+1=mm:=⟨_,rfl⟩
  have hb4:BxP 12 (m3+4) mm (m3+2) os P B bc X1 (trC os.length) G3:=by rw[←hG3,←hX1];exact hput _ _ (by rw[dgV_len];omega) (by omega)
  have hG30:G3 nx=some [.nl,.nl,.nl]:=by rw[←hG3,upd_ne _ _ (by omega)];exact hG0
  refine AW.loopN (α:=Nat×HP×List (List (List Int))×Int) (fun x=>sl 106 [(1,.i .i64 q),(8,.q nx 0),(9,ints fs1),(13,ints os),(14,.q (m3+2) 0),(15,.i .i64 fs1.length),(17,.i .i64 x.2.2.2),(18,.i .i64 x.1)]) (fun x=>x.2.1) (fun x m=>(x.1≤fs1.length∧mm≤m)∧x.2.1 nx=some [.nl,.nl,.nl]∧BxP 12 (m3+4) m (m3+2) os P B bc X1 x.2.2.1 x.2.1∧0≤x.2.2.2∧x.2.2.2<q) (fun x=>fs1.length-x.1) ((0,G3,trC os.length,r0.tmod q)) ?_ ?_ (fun _ _ h=>h) ?_
  ·exact⟨⟨by simp,by first|omega|(simp only;omega)|(dsimp only;omega)⟩,hG30,hb4.keep (fun _ _=>rfl) (by omega) (by first|omega|(simp only;omega)|(dsimp only;omega)),tm_bd hr.1 hq.1⟩
  ·simp(disch:=omega) [wks,wkA,sl,w64,ints,rows,cubes,w64,prs,ints,hz]<;>omega
  skip
  rintro⟨i,G,Y,pw⟩ m ⟨⟨hi,hm⟩,hG0,hbx,hpw⟩
  simp-dsimp-implicitDefEqProofs (disch:=omega)only[go_sem];dsimp only at hi hm hG0 hbx hpw ⊢
  refine AW.seq (fun N6 hN6=>?_);refine AW.sr envOk (fun N hN=>?_);simp-dsimp-implicitDefEqProofs (disch:=omega)only[go_sem,prs,ints,hz];refine hN _ ?_;try clear hN N
  refine AW.cond rfl (fun h4=>?_) (fun h4=>?_)
  ·try simp only[cn]at h4
   refine AW.skip ?_;simp only[thn,blk];refine hN6 _ ?_;try clear hN6 N6
   refine AW.seq (fun N7 hN7=>?_);refine AW.block ?_;refine AW.seq (fun N8 hN8=>?_);refine AW.sr envOk (fun N hN=>?_);simp-dsimp-implicitDefEqProofs (disch:=omega)only[go_sem,prs,ints,hz];refine hN _ ?_;try clear hN N
   refine AW.block ?_;refine AW.loopN (α:=Nat×HP×List (List (List Int))) (fun x=>sl 106 [(1,.i .i64 q),(8,.q nx 0),(9,ints fs1),(13,ints os),(14,.q (m3+2) 0),(15,.i .i64 fs1.length),(17,.i .i64 pw),(18,.i .i64 i),(19,.i .i64 ((fs1.length+x.1:Nat):Int))]) (fun x=>x.2.1) (fun x m=>(fs1.length+x.1≤os.length∧mm≤m)∧x.2.1 nx=some [.nl,.nl,.nl]∧BxP 12 (m3+4) m (m3+2) os P B bc X1 x.2.2 x.2.1) (fun x=>os.length-x.1) ((0,G,Y)) ?_ ?_ (fun _ _ h=>h) ?_
   ·exact⟨⟨by simp;omega,by first|omega|(simp only;omega)|(dsimp only;omega)⟩,hG0,hbx.keep (fun _ _=>rfl) (by omega) (by first|omega|(simp only;omega)|(dsimp only;omega))⟩
   ·simp(disch:=omega) [wks,wkA,sl,w64,ints,rows,cubes,w64,prs,ints,hz]<;>omega
   skip
   rintro⟨d,G,Y⟩ m ⟨⟨hd,hm⟩,hG0,hbx⟩
   simp-dsimp-implicitDefEqProofs (disch:=omega)only[go_sem];dsimp only at hd hm hG0 hbx ⊢
   have hlt:=hbx.lt
   refine AW.seq (fun N9 hN9=>?_);refine AW.sr envOk (fun N hN=>?_);simp-dsimp-implicitDefEqProofs (disch:=omega)only[go_sem,prs,ints,hz];refine hN _ ?_;try clear hN N
   refine AW.cond rfl (fun h5=>?_) (fun h5=>?_)
   ·try simp only[cn]at h5
    obtain⟨b,qq,hBe,hbb,hb1,hb2,hb3,hq0,hq1,hq2,hq3,hbq,hput⟩:=hbx.setB (k:=i) (l:=fs1.length+d-i-1) (by omega) (by omega)
    have ek:(((fs1.length+d:Nat):Int)-i-1).toNat=fs1.length+d-i-1:=by omega
    refine AW.skip ?_;simp only[thn,blk];refine hN9 _ ?_;try clear hN9 N9
    refine AW.seq (fun N10 hN10=>?_);refine AW.block ?_;refine AW.drawL envOk (by kernel_rfl) 14 (by kernel_rfl) ?_
    simp-dsimp-implicitDefEqProofs (disch:=omega)only[hr_nil,hr_one,hr_if,List.take_succ_cons,List.take_zero,List.drop_succ_cons,List.drop_zero,List.take_nil,List.drop_nil,go_sem,undef,w64,prs,ints,hz,hbb,hb1,hb2,hq0,hq1,hq2,ek];refine⟨_,.of (spec_l07Digits_p os (fs1.length+d) pw (by omega) (by omega) hoi (by omega)),?_⟩
    try simp-dsimp-implicitDefEqProofs (disch:=omega)only[go_sem,prs,ints,hbb,hb1,hb2,hq0,hq1,hq2,ek]
    refine hN10 _ ?_;try clear hN10 N10
    refine AW.nameH (fun G5 hG5=>?_);dsimp only at hG5
    refine AW.regionL envOk ?_;simp-dsimp-implicitDefEqProofs (disch:=omega)only[go_sem,prs,ints,hz];refine⟨(d+1,G5,Y.set i ((Y.getD i []).set (fs1.length+d-i-1) (dgV os (fs1.length+d) pw))),?_,fun _ _ h=>h,?_,?_⟩
    ·simp(disch:=omega) [wks,wkA,sl,w64,ints]<;>omega
    ·have hb5:BxP 12 (m3+4) (m+4+15+3) (m3+2) os P B bc X1 (Y.set i ((Y.getD i []).set (fs1.length+d-i-1) (dgV os (fs1.length+d) pw))) G5:=by rw[←hG5];exact hput _ _ (by rw[dgV_len];omega) (by omega)
     have hG50:G5 nx=some [.nl,.nl,.nl]:=by rw[←hG5,upd_ne _ _ (by omega)];exact hG0
     first|exact⟨⟨by first|omega|(simp only;omega)|(dsimp only;omega),by first|omega|(simp only;omega)|(dsimp only;omega)⟩,hG50,hb5⟩|exact⟨by first|omega|(simp only;omega)|(dsimp only;omega),hG50,hb5⟩
    first|omega|(simp only;omega)
   try simp only[cn]at h5
   have hik:i<fs1.length:=by omega
   have hfi:=getD_all (p:=fun x:Int=>0≤x∧x≤7) (X:=fs1) (d:=0) (fun x hx=>by have:=hfs1 x hx;omega) (by omega) i
   refine AW.exit ?_;simp only[thn,blk,if_true];refine hN8 _ ?_;try clear hN8 N8
   refine AW.regionL envOk ?_;simp-dsimp-implicitDefEqProofs (disch:=omega)only[go_sem,prs,ints,hz,gd_i];refine(spec_l01Power_z pw (fs1.getD i 0) q (by omega) (by omega) (by omega) _ _).mono2 ?_
   rintro m7 H7 r7 hm7 ⟨⟨x7,rfl,hx7⟩,hlow7⟩
   have hb7:=hbx.keep (G':=H7) (m':=m7+3) (fun j hj=>hlow7 j (by omega)) (by omega) (by omega)
   have h70:=(hlow7 nx (by omega)).trans hG0
   try simp-dsimp-implicitDefEqProofs (disch:=omega)only[go_sem,prs,ints,hz]
   refine hN7 _ ?_;try clear hN7 N7
   refine AW.regionL envOk ?_;simp-dsimp-implicitDefEqProofs (disch:=omega)only[go_sem,prs,ints,hz];refine⟨(i+1,H7,Y,x7),?_,fun _ _ h=>h,?_,?_⟩
   ·simp(disch:=omega) [wks,wkA,sl,w64,ints,rows,cubes,w64,prs,ints,hz]<;>omega
   ·first|exact⟨⟨by first|omega|(simp only;omega)|(dsimp only;omega),by first|omega|(simp only;omega)|(dsimp only;omega)⟩,h70,hb7,hx7⟩|exact⟨by first|omega|(simp only;omega)|(dsimp only;omega),h70,hb7,hx7⟩
   first|omega|(simp only;omega)
  try simp only[cn]at h4
  refine AW.exit ?_;simp only[thn,blk,if_true];refine hN5 _ ?_;try clear hN5 N5
  first|rw[hG3]at hbx hG0|skip
  have hbb:=hbx.cl
  have hlt:=hbx.lt
  refine AW.sr envOk (fun N hN=>?_);simp-dsimp-implicitDefEqProofs (disch:=omega)only[go_sem,prs,ints,hz,hbb,hG0,hbx.ones.1,hbx.ones.2];refine hN _ ?_;try clear hN N
  refine AW.ret ?_;simp-dsimp-implicitDefEqProofs (disch:=omega)only[go_sem];exact⟨_,hbx.fz (fun i hi=>upd_ne _ _ (by omega)) (by omega),os,_,_,rfl,hbx.sh⟩
 try simp only[cn]at h3
 have hk0:fs1.length=0:=by omega
 refine AW.skip ?_;simp only[thn,blk];refine hN4 _ ?_;try clear hN4 N4
 refine AW.nameH (fun G3 hG3=>?_);dsimp only at hG3
 refine AW.sr envOk (fun N hN=>?_);simp-dsimp-implicitDefEqProofs (disch:=omega)only[go_sem,prs,ints,hz];refine hN _ ?_;try clear hN N
 refine AW.seq (fun N11 hN11=>?_);refine AW.sr envOk (fun N hN=>?_);simp-dsimp-implicitDefEqProofs (disch:=omega)only[go_sem,prs,ints,hz];refine hN _ ?_;try clear hN N
 refine AW.block ?_;refine AW.loop1 ?_;refine AW.seq (fun N12 hN12=>?_);refine AW.sr envOk (fun N hN=>?_);simp-dsimp-implicitDefEqProofs (disch:=omega)only[go_sem,prs,ints,hz];refine hN _ ?_;try clear hN N
 refine AW.cond rfl (fun h=>absurd h (by first|(simp;done)|(simp only[decide_eq_true_eq];omega))) (fun _=>?_)
 refine AW.exit ?_;simp only[thn,blk,if_true];refine hN11 _ ?_;try clear hN11 N11
 first|rw[hG3]at hbx hG0|skip
 have hbb:=hbx.cl
 have hlt:=hbx.lt
 refine AW.sr envOk (fun N hN=>?_);simp-dsimp-implicitDefEqProofs (disch:=omega)only[go_sem,prs,ints,hz,hbb,hG0,hbx.ones.1,hbx.ones.2];refine hN _ ?_;try clear hN N
 refine AW.ret ?_;simp-dsimp-implicitDefEqProofs (disch:=omega)only[go_sem];exact⟨_,hbx.fz (fun i hi=>upd_ne _ _ (by omega)) (by omega),os,_,_,rfl,hbx.sh⟩
theorem spec_l07Meta_z (n q r0 s0:Int) (hn:1≤n∧n≤64) (hq:1≤q∧q≤64) (hr:0≤r0∧r0≤64) (hs:0≤s0∧s0≤64) (nx:Nat) (H:HP):AC Tryz.prog 144 nx H [.i .i64 n,.i .i64 q,.i .i64 r0,.i .i64 s0] (zK nx H (preQ 12)):=AC.zz (spec_l07Meta_o n q r0 s0 hn hq hr hs nx) H
end Go.Proofs.YtghmeeifjeafmaaGreat
