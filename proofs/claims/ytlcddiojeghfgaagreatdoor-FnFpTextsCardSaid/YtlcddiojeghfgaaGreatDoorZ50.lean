import Derived.Test.YtlcddiojeghfgaaGreatDoorZ49
set_option linter.unusedVariables false
set_option linter.unusedSimpArgs false
namespace Go.Proofs.YtlcddiojeghfgaaGreatDoor
open Nat (reduceAdd reduceSub reduceGT reduceEqDiff reduceMul)
structure rwQ (W:List (List Int)):Prop where
  n:W.length≤2000
  v:∀w∈W,w.length≤1048576
def fpzQ (r:AV):Prop:=∃g W,r=fp g W∧rwQ W
theorem lenop_LC {Γ:TEnv} {ty:TypeId} {H:HP} {a b:Nat} {L:AV} {cs:List AV} {k:AV→Prop} (h:LC H a b L cs) {e:TE} (hty:Γ ty=some e) {el:TypeId} (he:e.d= .slice el):lenop Γ ty L k=k (.i .i64 cs.length):=by
  unfold lenop
  rcases h with ⟨rfl,rfl⟩|⟨id,rfl,_,_,_⟩<;>simp only[hty,he]<;>rfl
def rwC (G:HP) (lo m:Nat) (L:AV) (cs:List AV) (W:List (List Int)):Prop:=LC G lo m L cs∧cs.length=W.length∧∀k,k<W.length→cs.getD k .j=ints (W.getD k [])∨∃id,cs.getD k .j= .h id 0 0∧W.getD k []=[]∧G id=some []∧(lo≤id∧id<m)∧bk L≠id+1
def lenX (Γ:TEnv) (ty:TypeId) (x:AV) (k:AV→Prop):Prop:=lenop Γ ty x k
@[congr] theorem lenX_cg {Γ:TEnv} {ty:TypeId} {x x':AV} {k:AV→Prop} (h:x=x'):lenX Γ ty x k=lenX Γ ty x' k:=by rw[h]
theorem a_lenX {Γ:TEnv} {P:Program} {x:Operand} {ty:TypeId} {tys:List TypeId} {dst:Option Nat} {id:Nat} {s:St} {K:St→Prop}:aop Γ P dst (.call ⟨.builtin .len,[x].toArray,(ty::tys).toArray⟩) id s K=lenX Γ ty (evo s.t x) fun r=>K ⟨putA s.t dst r,s.H,s.nx⟩:=a_len
theorem mkA {N:St→Prop} {C:Nat→HP→Int→Prop} {S:Nat→HP→Int→St} {G:Prop} (h1:(∀m H x,C m H x→N (S m H x))→G) (h2:∀m H x,C m H x→N (S m H x)):G:=h1 h2
--the orders of region 6
theorem mkT {Γ:TEnv} {P:Program} {b:Nat} {ops:List Oper} {t:Tr} {s:St} {K:St→Prop} (t':Tr) {S:St} (h1:trun Γ P b ops t' S K→trun Γ P b ops t s K) (h2:trun Γ P b ops t' S K):trun Γ P b ops t s K:=h1 h2
theorem mkU {Γ:TEnv} {P:Program} {b:Nat} {ops:List Oper} {t:Tr} {s:St} {K:St→Prop} (t':Tr) {C:Nat→HP→Int→Prop} {S:Nat→HP→Int→St} (h1:(∀m H x,C m H x→trun Γ P b ops t' (S m H x) K)→trun Γ P b ops t s K) (h2:∀m H x,C m H x→trun Γ P b ops t' (S m H x) K):trun Γ P b ops t s K:=h1 h2
def tQ33:Tr:= .nil
def tQ32:Tr:= .br 16 tQ33 .nil
def tQ31:Tr:= .br 14 tQ32 .nil
def tQ30:Tr:= .br 1 tQ31 .nil
def tQ29:Tr:= .br 13 tQ31 .nil
def tQ28:Tr:= .br 1 tQ29 (.br 13 tQ30 .nil)
def tQ27:Tr:= .br 12 tQ29 .nil
def tQ26:Tr:= .br 1 tQ27 (.br 12 tQ28 .nil)
def tQ25:Tr:= .br 11 tQ27 .nil
def tQ24:Tr:= .br 1 tQ25 (.br 11 tQ26 .nil)
def tQ23:Tr:= .br 10 tQ25 .nil
def tQ22:Tr:= .br 1 tQ23 (.br 10 tQ24 .nil)
def tQ21:Tr:= .br 5 tQ23 .nil
def tQ20:Tr:= .br 9 tQ23 .nil
def tQ19:Tr:= .br 1 tQ21 (.br 5 tQ22 .nil)
def tQ18:Tr:= .br 1 tQ20 (.br 9 tQ22 .nil)
def tQ17:Tr:= .br 4 tQ21 .nil
def tQ16:Tr:= .br 5 tQ20 (.br 9 tQ21 .nil)
def tQ15:Tr:= .br 8 tQ20 .nil
def tQ14:Tr:= .br 1 tQ17 (.br 4 tQ19 .nil)
def tQ13:Tr:= .br 1 tQ16 (.br 5 tQ18 (.br 9 tQ19 .nil))
def tQ12:Tr:= .br 1 tQ15 (.br 8 tQ18 .nil)
def tQ11:Tr:= .br 4 tQ16 (.br 9 tQ17 .nil)
def tQ10:Tr:= .br 5 tQ15 (.br 8 tQ16 .nil)
def tQ9:Tr:= .br 7 tQ15 .nil
def tQ8:Tr:= .br 1 tQ11 (.br 4 tQ13 (.br 9 tQ14 .nil))
def tQ7:Tr:= .br 1 tQ10 (.br 5 tQ12 (.br 8 tQ13 .nil))
def tQ6:Tr:= .br 1 tQ9 (.br 7 tQ12 .nil)
def tQ5:Tr:= .br 4 tQ10 (.br 8 tQ11 .nil)
def tQ4:Tr:= .br 5 tQ9 (.br 7 tQ10 .nil)
def tQ3:Tr:= .br 1 tQ5 (.br 4 tQ7 (.br 8 tQ8 .nil))
def tQ2:Tr:= .br 1 tQ4 (.br 5 tQ6 (.br 7 tQ7 .nil))
def tQ1:Tr:= .br 4 tQ4 (.br 7 tQ5 .nil)
def tQ0:Tr:= .br 1 tQ1 (.br 4 tQ2 (.br 7 tQ3 .nil))
--end of the orders
theorem rwC.start {G:HP} {lo m:Nat} {L:AV} {W:List (List Int)} (h:LC G lo m L (W.map ints)):rwC G lo m L (W.map ints) W:=⟨h,by simp,fun k hk=> .inl (by simp[hk])⟩
theorem rwC.keep {G G':HP} {lo m m':Nat} {L:AV} {cs:List AV} {W:List (List Int)} (h:rwC G lo m L cs W) (hk:∀i,lo≤i→i<m→G' i=G i) (hm:m≤m'):rwC G' lo m' L cs W:=by
  obtain⟨h1,h2,h3⟩:=h
  refine⟨(h1.keep hk).wide (Nat.le_refl _) hm,h2,fun k hk2=> ?_⟩
  rcases h3 k hk2 with e|⟨id,e1,e2,e3,e4,e5⟩
  · exact .inl e
  · exact .inr ⟨id,e1,e2,(hk id e4.1 e4.2).trans e3,by omega,e5⟩
theorem rwC.push {G G':HP} {lo m m' id new:Nat} {L:AV} {cs:List AV} {W:List (List Int)} (h:rwC G lo m L cs W) (hnew:G' new=some (cs++[.h id 0 0])) (hid:G' id=some []) (h1:m≤id∧id<m') (h2:m≤new∧new<m') (hne:new≠id) (hk:∀i,lo≤i→i<m→bk L≠i+1→G' i=G i) (hlm:lo≤m):rwC G' lo m' (.h new 0 (cs.length+1)) (cs++[.h id 0 0]) (W++[[]]):=by
  obtain⟨g1,g2,g3⟩:=h
  refine⟨LC.mk hnew (by simp) (by omega) h2.2,by simp[g2],fun k hk2=> ?_⟩
  rw[List.length_append,List.length_singleton]at hk2
  by_cases e:k<W.length
  · have e1:(cs++[AV.h id 0 0]).getD k .j=cs.getD k .j:=by rw[List.getD_eq_getElem?_getD,List.getElem?_append_left (by omega),←List.getD_eq_getElem?_getD]
    have e2:(W++[[]]).getD k []=W.getD k []:=by rw[List.getD_eq_getElem?_getD,List.getElem?_append_left e,←List.getD_eq_getElem?_getD]
    rw[e1,e2]
    rcases g3 k e with g|⟨q,q1,q2,q3,q4,q5⟩
    · exact .inl g
    · exact .inr ⟨q,q1,q2,(hk q q4.1 q4.2 q5).trans q3,by omega,by simp only[bk];omega⟩
  · have ek:k=W.length:=by omega
    subst ek
    refine .inr ⟨id,?_,?_,hid,by omega,by simp only[bk];omega⟩
    · rw[←g2];simp
    · simp
theorem rwC.fz {G:HP} {n lo m:Nat} {L:AV} {cs:List AV} {W:List (List Int)} {g:Int} (h:rwC G lo m L cs W) (hn:n≤lo):Fz G (blw n G) (.g [.i .i64 g,L]) (fp g W):=by
  obtain⟨g1,g2,g3⟩:=h
  refine .g _ _ rfl fun k x y hx hy=> ?_
  match k,hx,hy with
  |0,hx,hy=>cases hx;cases hy;exact .refl _
  | 1,hx,hy=>
    cases hx;cases hy
    rw[rows_v]
    refine g1.fz hn (by rw[List.length_map,g2]) fun k x y q1 q2=> ?_
    have hk:k<W.length:=by have:=(List.getElem?_eq_some_iff.1 q2).1;simpa using this
    have hx1:x=cs.getD k .j:=by rw[List.getD_eq_getElem?_getD,q1];rfl
    have hy1:y=ints (W.getD k []):=by
      rw[List.getElem?_map,List.getElem?_eq_getElem hk]at q2
      rw[List.getD_eq_getElem?_getD,List.getElem?_eq_getElem hk]
      exact(Option.some.inj q2).symm
    subst hx1 hy1
    rcases g3 k hk with e|⟨id,e1,e2,e3,e4,e5⟩
    · rw[e];exact .refl _
    · rw[e1,e2]
      exact .h id 0 0 [] [] e3 (blw_ge (by omega)) (by simp) rfl (fun k x y h1 _=>by simp at h1)
set_option maxRecDepth 20000 in
set_option maxHeartbeats 4000000 in
theorem spec_l27Any_o {bs:List Int} {sid:Nat} {H:HP} (hg:srcOk bs sid H) (nx:Nat) (hsn:sid<nx):AC Tryz.prog 11 nx H [.q sid 0] (fun nx' H' r=>∃r2,Fz H' (blw nx H') r r2∧fpzQ r2∧srcOk bs sid H'∧∀i,i<nx→i≠sid→H' i=H i):=by
 refine AC.introx envOk Tryz.func11 rfl (by kernel_rfl) Tryz.ntmps11 Tryz.results11 (fun hfr cX=> ?_)
 refine AW.sr envOk (fun N hN=> ?_)
 simp-dsimp-implicitDefEqProofs (disch:=(first|omega|((repeat refine LC.upd (by omega) ?_);assumption))) only[go_sem,undef,w64]
 refine hN _ ?_
 try clear hN N
 refine AW.sr envOk (fun N hN=> ?_)
 simp-dsimp-implicitDefEqProofs (disch:=(first|omega|((repeat refine LC.upd (by omega) ?_);assumption))) only[go_sem,undef,w64]
 refine(spec_l27Draw_n (hg.keep (upd_ne _ _ (by omega))) _ (by omega)).mono2 ?_
 rintro m1 H1 r1 hm1 ⟨⟨g,L,W,rfl,hL,hW,hgb⟩,hg1,hk1⟩
 have hLo:=hL.one
 have hLc:=hL.cells
 have hWn:=hW.n
 replace hW:rwQ W:=⟨by omega,hW.v⟩
 try simp-dsimp-implicitDefEqProofs (disch:=(first|omega|((repeat refine LC.upd (by omega) ?_);assumption))) only[go_sem,undef,w64,hLo,hLc,Bool.and_true]
 refine hN _ ?_
 try clear hN N
 refine AW.seq (fun N1 hN1=> ?_)
 refine AW.nameH (fun G0 hG0=> ?_)
 dsimp only at hG0
 have hl:∀i,i<nx→i≠sid→G0 i=H i:=fun i hi hne=>by rw[←hG0,upd_ne _ _ (by omega),hk1 i (by omega) hne,upd_ne _ _ (by omega)]
 have h0:G0 nx=some [.i .i64 0,.nl]:=by rw[←hG0,upd_ne _ _ (by omega),hk1 nx (by omega) (by omega),upd_same]
 replace hg:srcOk bs sid G0:=hg1.keep (by rw[←hG0,upd_ne _ _ (by omega)])
 have hb:G0 (nx+1+2)=some [.i .i64 g,L]:=by rw[←hG0,upd_same]
 replace hL:LC G0 (nx+1+4) m1 L (W.map ints):=hL.keep (fun i h1 h2=>by rw[←hG0,upd_ne _ _ (by omega)])
 clear hG0
 have hLl:=hL.len
 have hLb:=hL.bd
 obtain⟨bx,hbx⟩:∃bx,nx+1+2=bx:=⟨_,rfl⟩
 rw[hbx]at hb ⊢
 simp-dsimp-implicitDefEqProofs (disch:=(first|omega|((repeat refine LC.upd (by omega) ?_);assumption))) only[go_sem,undef]
 refine AW.sr envOk (fun N hN=> ?_)
 simp-dsimp-implicitDefEqProofs (disch:=(first|omega|((repeat refine LC.upd (by omega) ?_);assumption))) only[go_sem,undef,w64]
 refine(spec_l01Next_s hg 40 (by omega) _).mono2 ?_
 rintro m2 H2 r2 hm2 ⟨⟨x2,rfl,hx2⟩,hg2,hk2⟩
 replace hl:∀i,i<nx→i≠sid→H2 i=H i:=fun i hi hne=>(hk2 i (by omega) hne).trans (hl i hi hne)
 replace h0:=(hk2 nx (by omega) (by omega)).trans h0
 replace hb:=(hk2 bx (by omega) (by omega)).trans hb
 replace hL:=hL.keep (H':=H2) (fun i h1 h2=>hk2 i (by omega) (by omega))
 replace hg:=hg2
 try simp-dsimp-implicitDefEqProofs (disch:=(first|omega|((repeat refine LC.upd (by omega) ?_);assumption))) only[go_sem,undef,w64]
 refine hN _ ?_
 try clear hN N
 refine AW.block ?_
 refine AW.sr envOk (fun N hN=> ?_)
 simp-dsimp-implicitDefEqProofs (disch:=(first|omega|((repeat refine LC.upd (by omega) ?_);assumption))) only[go_sem,undef,w64]
 refine hN _ ?_
 try clear hN N
 refine AW.cond rfl (fun h1=> ?_) (fun h1=> ?_)
 ·try simp only[cn]at h1
  refine AW.regionL envOk ?_
  simp-dsimp-implicitDefEqProofs (disch:=(first|omega|((repeat refine LC.upd (by omega) ?_);assumption))) only[go_sem,undef,w64]
  refine(spec_l01Pick_s (hg.keep (by first|rfl|(simp(disch:=omega) only[upd_ne]))) [-1,5,0] 3 (upd_same _ _ _) rfl (by omega) (by omega) _ (by omega) (by omega) (by omega)).mono2 ?_
  rintro m3 H3 r3 hm3 ⟨⟨x3,rfl,hx3⟩,hg3,hk3⟩
  have hb3:H3 bx=some [.i .i64 g,L]:=(hk3 bx (by omega) (by omega)).trans ((upd_ne _ _ (by omega)).trans hb)
  try simp-dsimp-implicitDefEqProofs (disch:=(first|omega|((repeat refine LC.upd (by omega) ?_);assumption))) only[go_sem,undef,w64,hb3]
  refine hN1 _ ?_
  try clear hN1 N1
  first|refine AW.fzpush (b4+14) (b4+12) 1 (W.map ints) [.i .i64 x4] (by simp(disch:=omega) only[upd_ne,upd_same]) (by simp(disch:=omega) only[upd_ne,upd_same,dl_ne]) rfl (by omega) ?_|skip
  refine AW.nameH (fun G9 hG9=> ?_)
  dsimp only at hG9
  obtain⟨g9,L9,W9,m9,cs9,hL9,hW9,hb9,hg9,hl9,h09⟩:∃g L W m cs,rwC G9 (nx+1+4) m L cs W∧rwQ W∧G9 bx=some [.i .i64 g,L]∧srcOk bs sid G9∧(∀i,i<nx→i≠sid→G9 i=H i)∧G9 nx=some [.i .i64 0,.nl]:=by
   first
   |exact⟨x3,L,W,m1,_,rwC.start (hL.keep (fun i h1 h2=>by rw[←hG9,upd_ne _ _ (by omega),hk3 i (by omega) (by omega),upd_ne _ _ (by omega)])),hW,by rw[←hG9,upd_same],hg3.keep (by rw[←hG9,upd_ne _ _ (by omega)]),fun i hi hne=>by rw[←hG9,upd_ne _ _ (by omega),hk3 i (by omega) hne,upd_ne _ _ (by omega)];exact hl i hi hne,by rw[←hG9,upd_ne _ _ (by omega),hk3 nx (by omega) (by omega),upd_ne _ _ (by omega)];exact h0⟩
   |exact⟨g,Lz,Wz,_,csz,by rw[←hG9];exact hLz,hWz,by rw[←hG9];exact hbz,by rw[←hG9];exact hgz,fun i hi hne=>by rw[←hG9];exact hlz i hi hne,by rw[←hG9];exact h0z⟩
   |exact⟨g,L,W,m1,_,rwC.start (by rw[←hG9];exact hL),hW,by rw[←hG9];exact hb,by rw[←hG9];exact hg,fun i hi hne=>by rw[←hG9];exact hl i hi hne,by rw[←hG9];exact h0⟩
   |exact⟨g,.h (b4+14) 0 (W.length+1),W++[[x4]],m4,_,rwC.start (LC.mk (by rw[←hG9,upd_same];simp[ints]) (by simp) (by omega) (by omega)),⟨by simp;omega,app_all hW.v (by simp)⟩,by rw[←hG9];simp(disch:=omega) only[upd_ne,upd_same],hg4.keep (by rw[←hG9];simp(disch:=omega) only[upd_ne,dl_ne]),fun i hi hne=>by rw[←hG9];simp(disch:=omega) only[upd_ne,dl_ne];rw[hk4 i (by omega) hne];exact hl i hi hne,by rw[←hG9];simp(disch:=omega) only[upd_ne,dl_ne];rw[hk4 nx (by omega) (by omega)];exact h0⟩
  have hLo9:=hL9.1.one
  have hLc9:=hL9.1.cells
  simp-dsimp-implicitDefEqProofs (disch:=(first|omega|((repeat refine LC.upd (by omega) ?_);assumption))) only[go_sem,undef]
  refine AW.sr envOk (fun N hN=> ?_)
  simp-dsimp-implicitDefEqProofs (disch:=(first|omega|((repeat refine LC.upd (by omega) ?_);assumption))) only[go_sem,undef,w64,hb9,h09,hLo9,hLc9,Bool.and_true]
  refine hN _ ?_
  try clear hN N
  refine AW.ret ?_
  simp-dsimp-implicitDefEqProofs (disch:=(first|omega|((repeat refine LC.upd (by omega) ?_);assumption))) only[go_sem,undef]
  exact⟨_,fun _ _ h=>h,_,(hL9.keep (fun i h1 h2=>upd_ne _ _ (by omega)) (Nat.le_refl _)).fz (by omega),⟨_,_,rfl,hW9⟩,hg9.keep (upd_ne _ _ (by omega)),fun i hi hne=>(upd_ne _ _ (by omega)).trans (hl9 i hi hne)⟩
 ·try simp only[cn]at h1
  refine AW.sr envOk (fun N hN=> ?_)
  simp-dsimp-implicitDefEqProofs (disch:=(first|omega|((repeat refine LC.upd (by omega) ?_);assumption))) only[go_sem,undef,w64]
  refine hN _ ?_
  try clear hN N
  refine AW.cond rfl (fun h2=> ?_) (fun h2=> ?_)
  ·try simp only[cn]at h2
   have hcl:(W.map ints).length=W.length:=List.length_map ..
   refine AW.name (fun N hN=> ?_)
   apply mkA (N:=N)
   ·intro key
    refine AW.drawT envOk (by kernel_rfl) [true,false,true,true,false,false,true,false,false,false,false,false,false,false,false,true,false] (tQ0) (by kernel_rfl) ?_
    simp-dsimp-implicitDefEqProofs (disch:=(first|omega|((repeat refine LC.upd (by omega) ?_);assumption))) only[go_sem,undef,w64]
    apply mkU tQ33 (C:=fun m H x=>m2+2+2+17≤m∧srcOk bs sid H∧∀i,i<m2→i≠sid→H i=H2 i)
    intro hQ33
    apply mkU tQ32 (C:=fun m H x=>m2+2+2+17≤m∧srcOk bs sid H∧∀i,i<m2→i≠sid→H i=H2 i)
    intro hQ32
    apply mkU tQ31 (C:=fun m H x=>m2+2+2+17≤m∧srcOk bs sid H∧∀i,i<m2→i≠sid→H i=H2 i)
    intro hQ31
    apply mkU tQ30 (C:=fun m H x=>m2+2+2+17≤m∧srcOk bs sid H∧∀i,i<m2→i≠sid→H i=H2 i)
    intro hQ30
    apply mkU tQ29 (C:=fun m H x=>m2+2+2+17≤m∧srcOk bs sid H∧∀i,i<m2→i≠sid→H i=H2 i)
    intro hQ29
    apply mkU tQ28 (C:=fun m H x=>m2+2+2+17≤m∧srcOk bs sid H∧∀i,i<m2→i≠sid→H i=H2 i)
    intro hQ28
    apply mkU tQ27 (C:=fun m H x=>m2+2+2+17≤m∧srcOk bs sid H∧∀i,i<m2→i≠sid→H i=H2 i)
    intro hQ27
    apply mkU tQ26 (C:=fun m H x=>m2+2+2+17≤m∧srcOk bs sid H∧∀i,i<m2→i≠sid→H i=H2 i)
    intro hQ26
    apply mkT tQ25
    intro hQ25
    apply mkT tQ24
    intro hQ24
    apply mkT tQ23
    intro hQ23
    apply mkT tQ22
    intro hQ22
    apply mkT tQ21
    intro hQ21
    apply mkT tQ20
    intro hQ20
    apply mkT tQ19
    intro hQ19
    apply mkT tQ18
    intro hQ18
    apply mkT tQ17
    intro hQ17
    apply mkT tQ16
    intro hQ16
    apply mkT tQ15
    intro hQ15
    apply mkT tQ14
    intro hQ14
    apply mkT tQ13
    intro hQ13
    apply mkT tQ12
    intro hQ12
    apply mkT tQ11
    intro hQ11
    apply mkT tQ10
    intro hQ10
    apply mkT tQ9
    intro hQ9
    apply mkT tQ8
    intro hQ8
    apply mkT tQ7
    intro hQ7
    apply mkT tQ6
    intro hQ6
    apply mkT tQ5
    intro hQ5
    apply mkT tQ4
    intro hQ4
    apply mkT tQ3
    intro hQ3
    apply mkT tQ2
    intro hQ2
    apply mkT tQ1
    intro hQ1
    ·rw[tQ0]
     try simp-dsimp-implicitDefEqProofs (disch:=(first|omega|((repeat refine LC.upd (by omega) ?_);assumption))) only[go_sem,undef,w64,hb]
     repeat' (with_reducible refine And.intro ?_ ?_)
     all_goals try (with_reducible first|exact hQ1|exact hQ2|exact hQ3)
    ·rw[tQ1]
     try simp-dsimp-implicitDefEqProofs (disch:=(first|omega|((repeat refine LC.upd (by omega) ?_);assumption))) only[go_sem,undef,w64,hb]
     repeat' (with_reducible refine And.intro ?_ ?_)
     all_goals try (with_reducible first|exact hQ4|exact hQ5)
    ·rw[tQ2]
     try simp-dsimp-implicitDefEqProofs (disch:=(first|omega|((repeat refine LC.upd (by omega) ?_);assumption))) only[go_sem,undef,w64,hb]
     repeat' (with_reducible refine And.intro ?_ ?_)
     all_goals try (with_reducible first|exact hQ4|exact hQ6|exact hQ7)
    ·rw[tQ3]
     try simp-dsimp-implicitDefEqProofs (disch:=(first|omega|((repeat refine LC.upd (by omega) ?_);assumption))) only[go_sem,undef,w64,hb]
     repeat' (with_reducible refine And.intro ?_ ?_)
     all_goals try (with_reducible first|exact hQ5|exact hQ7|exact hQ8)
    ·rw[tQ4]
     try simp-dsimp-implicitDefEqProofs (disch:=(first|omega|((repeat refine LC.upd (by omega) ?_);assumption))) only[go_sem,undef,w64,hb]
     repeat' (with_reducible refine And.intro ?_ ?_)
     all_goals try (with_reducible first|exact hQ9|exact hQ10)
    ·rw[tQ5]
     try simp-dsimp-implicitDefEqProofs (disch:=(first|omega|((repeat refine LC.upd (by omega) ?_);assumption))) only[go_sem,undef,w64,hb]
     repeat' (with_reducible refine And.intro ?_ ?_)
     all_goals try (with_reducible first|exact hQ10|exact hQ11)
    ·rw[tQ6]
     try simp-dsimp-implicitDefEqProofs (disch:=(first|omega|((repeat refine LC.upd (by omega) ?_);assumption))) only[go_sem,undef,w64,hb]
     repeat' (with_reducible refine And.intro ?_ ?_)
     all_goals try (with_reducible first|exact hQ9|exact hQ12)
    ·rw[tQ7]
     try simp-dsimp-implicitDefEqProofs (disch:=(first|omega|((repeat refine LC.upd (by omega) ?_);assumption))) only[go_sem,undef,w64,hb]
     repeat' (with_reducible refine And.intro ?_ ?_)
     all_goals try (with_reducible first|exact hQ10|exact hQ12|exact hQ13)
    ·rw[tQ8]
     try simp-dsimp-implicitDefEqProofs (disch:=(first|omega|((repeat refine LC.upd (by omega) ?_);assumption))) only[go_sem,undef,w64,hb]
     repeat' (with_reducible refine And.intro ?_ ?_)
     all_goals try (with_reducible first|exact hQ11|exact hQ13|exact hQ14)
    ·rw[tQ9]
     try simp-dsimp-implicitDefEqProofs (disch:=(first|omega|((repeat refine LC.upd (by omega) ?_);assumption))) only[go_sem,undef,w64,hb]
     repeat' (with_reducible refine And.intro ?_ ?_)
     all_goals try (with_reducible first|exact hQ15)
    ·rw[tQ10]
     try simp-dsimp-implicitDefEqProofs (disch:=(first|omega|((repeat refine LC.upd (by omega) ?_);assumption))) only[go_sem,undef,w64,hb]
     repeat' (with_reducible refine And.intro ?_ ?_)
     all_goals try (with_reducible first|exact hQ15|exact hQ16)
    ·rw[tQ11]
     try simp-dsimp-implicitDefEqProofs (disch:=(first|omega|((repeat refine LC.upd (by omega) ?_);assumption))) only[go_sem,undef,w64,hb]
     repeat' (with_reducible refine And.intro ?_ ?_)
     all_goals try (with_reducible first|exact hQ16|exact hQ17)
    ·rw[tQ12]
     try simp-dsimp-implicitDefEqProofs (disch:=(first|omega|((repeat refine LC.upd (by omega) ?_);assumption))) only[go_sem,undef,w64,hb]
     repeat' (with_reducible refine And.intro ?_ ?_)
     all_goals try (with_reducible first|exact hQ15|exact hQ18)
    ·rw[tQ13]
     try simp-dsimp-implicitDefEqProofs (disch:=(first|omega|((repeat refine LC.upd (by omega) ?_);assumption))) only[go_sem,undef,w64,hb]
     repeat' (with_reducible refine And.intro ?_ ?_)
     all_goals try (with_reducible first|exact hQ16|exact hQ18|exact hQ19)
    ·rw[tQ14]
     try simp-dsimp-implicitDefEqProofs (disch:=(first|omega|((repeat refine LC.upd (by omega) ?_);assumption))) only[go_sem,undef,w64,hb]
     repeat' (with_reducible refine And.intro ?_ ?_)
     all_goals try (with_reducible first|exact hQ17|exact hQ19)
    ·rw[tQ15]
     try simp-dsimp-implicitDefEqProofs (disch:=(first|omega|((repeat refine LC.upd (by omega) ?_);assumption))) only[go_sem,undef,w64,hb]
     repeat' (with_reducible refine And.intro ?_ ?_)
     all_goals try (with_reducible first|exact hQ20)
    ·rw[tQ16]
     try simp-dsimp-implicitDefEqProofs (disch:=(first|omega|((repeat refine LC.upd (by omega) ?_);assumption))) only[go_sem,undef,w64,hb]
     repeat' (with_reducible refine And.intro ?_ ?_)
     all_goals try (with_reducible first|exact hQ20|exact hQ21)
    ·rw[tQ17]
     try simp-dsimp-implicitDefEqProofs (disch:=(first|omega|((repeat refine LC.upd (by omega) ?_);assumption))) only[go_sem,undef,w64,hb]
     repeat' (with_reducible refine And.intro ?_ ?_)
     all_goals try (with_reducible first|exact hQ21)
    ·rw[tQ18]
     try simp-dsimp-implicitDefEqProofs (disch:=(first|omega|((repeat refine LC.upd (by omega) ?_);assumption))) only[go_sem,undef,w64,hb]
     repeat' (with_reducible refine And.intro ?_ ?_)
     all_goals try (with_reducible first|exact hQ20|exact hQ22)
    ·rw[tQ19]
     try simp-dsimp-implicitDefEqProofs (disch:=(first|omega|((repeat refine LC.upd (by omega) ?_);assumption))) only[go_sem,undef,w64,hb]
     repeat' (with_reducible refine And.intro ?_ ?_)
     all_goals try (with_reducible first|exact hQ21|exact hQ22)
    ·rw[tQ20]
     try simp-dsimp-implicitDefEqProofs (disch:=(first|omega|((repeat refine LC.upd (by omega) ?_);assumption))) only[go_sem,undef,w64,hb]
     repeat' (with_reducible refine And.intro ?_ ?_)
     all_goals try (with_reducible first|exact hQ23)
    ·rw[tQ21]
     try simp-dsimp-implicitDefEqProofs (disch:=(first|omega|((repeat refine LC.upd (by omega) ?_);assumption))) only[go_sem,undef,w64,hb]
     repeat' (with_reducible refine And.intro ?_ ?_)
     all_goals try (with_reducible first|exact hQ23)
    ·rw[tQ22]
     try simp-dsimp-implicitDefEqProofs (disch:=(first|omega|((repeat refine LC.upd (by omega) ?_);assumption))) only[go_sem,undef,w64,hb]
     repeat' (with_reducible refine And.intro ?_ ?_)
     all_goals try (with_reducible first|exact hQ23|exact hQ24)
    ·rw[tQ23]
     try simp-dsimp-implicitDefEqProofs (disch:=(first|omega|((repeat refine LC.upd (by omega) ?_);assumption))) only[go_sem,undef,w64,hb]
     repeat' (with_reducible refine And.intro ?_ ?_)
     all_goals try (with_reducible first|exact hQ25)
    ·rw[tQ24]
     try simp-dsimp-implicitDefEqProofs (disch:=(first|omega|((repeat refine LC.upd (by omega) ?_);assumption))) only[go_sem,undef,w64,hb]
     repeat' (with_reducible refine And.intro ?_ ?_)
     all_goals try (with_reducible first|exact hQ25)
     refine(spec_l01Pick_s (hg.keep (by first|rfl|(simp(disch:=omega) only[upd_ne]))) [0,g+1,0-g-1] 3 (upd_same _ _ _) rfl (by omega) (by omega) _ (by omega) (by omega) (by omega)).mono2 ?_
     rintro m4 H4 r4 hm4 ⟨⟨x4,rfl,hx4⟩,hg4,hk4⟩
     try simp-dsimp-implicitDefEqProofs (disch:=(first|omega|((repeat refine LC.upd (by omega) ?_);assumption))) only[go_sem,undef,w64]
     have hk5:∀i,i<m2→i≠sid→H4 i=H2 i:=fun i hi hne=>(hk4 i (by omega) hne).trans (upd_ne _ _ (by omega))
     exact hQ26 m4 H4 x4 (And.intro (show m2+2+2+17≤m4 by omega) (And.intro hg4 hk5))
    ·rw[tQ25]
     try simp-dsimp-implicitDefEqProofs (disch:=(first|omega|((repeat refine LC.upd (by omega) ?_);assumption))) only[go_sem,undef,w64,hb]
     repeat' (with_reducible refine And.intro ?_ ?_)
     refine(spec_l01Pick_s (hg.keep (by first|rfl|(simp(disch:=omega) only[upd_ne]))) [0,g+1,0-g-1] 3 (upd_same _ _ _) rfl (by omega) (by omega) _ (by omega) (by omega) (by omega)).mono2 ?_
     rintro m4 H4 r4 hm4 ⟨⟨x4,rfl,hx4⟩,hg4,hk4⟩
     try simp-dsimp-implicitDefEqProofs (disch:=(first|omega|((repeat refine LC.upd (by omega) ?_);assumption))) only[go_sem,undef,w64]
     have hk5:∀i,i<m2→i≠sid→H4 i=H2 i:=fun i hi hne=>(hk4 i (by omega) hne).trans (upd_ne _ _ (by omega))
     exact hQ27 m4 H4 x4 (And.intro (show m2+2+2+17≤m4 by omega) (And.intro hg4 hk5))
    ·intro m4 H4 x4 hC
     have hb4:H4 bx=some [.i .i64 g,L]:=(hC.2.2 bx (by omega) (by omega)).trans hb
     have hL4:LC H4 (nx+1+4) m1 L (W.map ints):=hL.keep (fun i h1 h2=>hC.2.2 i (by omega) (by omega))
     have hC1:=hC.1
     rw[tQ26]
     try simp-dsimp-implicitDefEqProofs (disch:=(first|omega|((repeat refine LC.upd (by omega) ?_);assumption))) only[go_sem,undef,w64,hLo,hLl,hb4,dl_ne,hcl,one_lh,apst_LC (a:=nx+1+4) (b:=m1) (L:=L) (cs:=W.map ints)]
     repeat' (with_reducible refine And.intro ?_ ?_)
     all_goals try (with_reducible first|exact hQ27 m4 H4 x4 hC|exact hQ28 m4 H4 x4 hC)
    ·intro m4 H4 x4 hC
     have hb4:H4 bx=some [.i .i64 g,L]:=(hC.2.2 bx (by omega) (by omega)).trans hb
     have hL4:LC H4 (nx+1+4) m1 L (W.map ints):=hL.keep (fun i h1 h2=>hC.2.2 i (by omega) (by omega))
     have hC1:=hC.1
     rw[tQ27]
     try simp-dsimp-implicitDefEqProofs (disch:=(first|omega|((repeat refine LC.upd (by omega) ?_);assumption))) only[go_sem,undef,w64,hLo,hLl,hb4,dl_ne,hcl,one_lh,apst_LC (a:=nx+1+4) (b:=m1) (L:=L) (cs:=W.map ints)]
     repeat' (with_reducible refine And.intro ?_ ?_)
     all_goals try (with_reducible first|exact hQ29 m4 H4 x4 hC)
    ·intro m4 H4 x4 hC
     have hb4:H4 bx=some [.i .i64 g,L]:=(hC.2.2 bx (by omega) (by omega)).trans hb
     have hL4:LC H4 (nx+1+4) m1 L (W.map ints):=hL.keep (fun i h1 h2=>hC.2.2 i (by omega) (by omega))
     have hC1:=hC.1
     rw[tQ28]
     try simp-dsimp-implicitDefEqProofs (disch:=(first|omega|((repeat refine LC.upd (by omega) ?_);assumption))) only[go_sem,undef,w64,hLo,hLl,hb4,dl_ne,hcl,one_lh,apst_LC (a:=nx+1+4) (b:=m1) (L:=L) (cs:=W.map ints)]
     repeat' (with_reducible refine And.intro ?_ ?_)
     all_goals try (with_reducible first|exact hQ29 m4 H4 x4 hC|exact hQ30 m4 H4 x4 hC)
    ·intro m4 H4 x4 hC
     have hb4:H4 bx=some [.i .i64 g,L]:=(hC.2.2 bx (by omega) (by omega)).trans hb
     have hL4:LC H4 (nx+1+4) m1 L (W.map ints):=hL.keep (fun i h1 h2=>hC.2.2 i (by omega) (by omega))
     have hC1:=hC.1
     rw[tQ29]
     try simp-dsimp-implicitDefEqProofs (disch:=(first|omega|((repeat refine LC.upd (by omega) ?_);assumption))) only[go_sem,undef,w64,hLo,hLl,hb4,dl_ne,hcl,one_lh,apst_LC (a:=nx+1+4) (b:=m1) (L:=L) (cs:=W.map ints)]
     repeat' (with_reducible refine And.intro ?_ ?_)
     all_goals try (with_reducible first|exact hQ31 m4 H4 x4 hC)
    ·intro m4 H4 x4 hC
     have hb4:H4 bx=some [.i .i64 g,L]:=(hC.2.2 bx (by omega) (by omega)).trans hb
     have hL4:LC H4 (nx+1+4) m1 L (W.map ints):=hL.keep (fun i h1 h2=>hC.2.2 i (by omega) (by omega))
     have hC1:=hC.1
     rw[tQ30]
     try simp-dsimp-implicitDefEqProofs (disch:=(first|omega|((repeat refine LC.upd (by omega) ?_);assumption))) only[go_sem,undef,w64,hLo,hLl,hb4,dl_ne,hcl,one_lh,apst_LC (a:=nx+1+4) (b:=m1) (L:=L) (cs:=W.map ints)]
     repeat' (with_reducible refine And.intro ?_ ?_)
     all_goals try (with_reducible first|exact hQ31 m4 H4 x4 hC)
    ·intro m4 H4 x4 hC
     have hb4:H4 bx=some [.i .i64 g,L]:=(hC.2.2 bx (by omega) (by omega)).trans hb
     have hL4:LC H4 (nx+1+4) m1 L (W.map ints):=hL.keep (fun i h1 h2=>hC.2.2 i (by omega) (by omega))
     have hC1:=hC.1
     rw[tQ31]
     try simp-dsimp-implicitDefEqProofs (disch:=(first|omega|((repeat refine LC.upd (by omega) ?_);assumption))) only[go_sem,undef,w64,hLo,hLl,hb4,dl_ne,hcl,one_lh,apst_LC (a:=nx+1+4) (b:=m1) (L:=L) (cs:=W.map ints)]
     repeat' (with_reducible refine And.intro ?_ ?_)
     all_goals try (with_reducible first|exact hQ32 m4 H4 x4 hC)
    ·intro m4 H4 x4 hC
     have hb4:H4 bx=some [.i .i64 g,L]:=(hC.2.2 bx (by omega) (by omega)).trans hb
     have hL4:LC H4 (nx+1+4) m1 L (W.map ints):=hL.keep (fun i h1 h2=>hC.2.2 i (by omega) (by omega))
     have hC1:=hC.1
     rw[tQ32]
     try simp-dsimp-implicitDefEqProofs (disch:=(first|omega|((repeat refine LC.upd (by omega) ?_);assumption))) only[go_sem,undef,w64,hLo,hLl,hb4,dl_ne,hcl,one_lh,apst_LC (a:=nx+1+4) (b:=m1) (L:=L) (cs:=W.map ints)]
     repeat' (with_reducible refine And.intro ?_ ?_)
     all_goals try (with_reducible first|exact hQ33 m4 H4 x4 hC)
    ·intro m4 H4 x4 hC
     have hb4:H4 bx=some [.i .i64 g,L]:=(hC.2.2 bx (by omega) (by omega)).trans hb
     have hL4:LC H4 (nx+1+4) m1 L (W.map ints):=hL.keep (fun i h1 h2=>hC.2.2 i (by omega) (by omega))
     have hC1:=hC.1
     rw[tQ33]
     try simp-dsimp-implicitDefEqProofs (disch:=(first|omega|((repeat refine LC.upd (by omega) ?_);assumption))) only[go_sem,undef,w64,hLo,hLl,hb4,dl_ne,hcl,one_lh,apst_LC (a:=nx+1+4) (b:=m1) (L:=L) (cs:=W.map ints)]
     exact key m4 H4 x4 hC
   intro m4 H4 x4 hC
   obtain⟨hm4,hg4,hk4⟩:=hC
   have hb4:H4 bx=some [.i .i64 g,L]:=(hk4 bx (by omega) (by omega)).trans hb
   have hL4:LC H4 (nx+1+4) m1 L (W.map ints):=hL.keep (fun i h1 h2=>hk4 i (by omega) (by omega))
   obtain⟨b4,hb4e⟩:∃b,m2+2+2=b:=⟨_,rfl⟩
   rw[hb4e]
   refine hN _ ?_
   simp only[thn,blk]
   refine hN1 _ ?_
   try clear hN1 N1
   first|refine AW.fzpush (b4+14) (b4+12) 1 (W.map ints) [.i .i64 x4] (by simp(disch:=omega) only[upd_ne,upd_same]) (by simp(disch:=omega) only[upd_ne,upd_same,dl_ne]) rfl (by omega) ?_|skip
   refine AW.nameH (fun G9 hG9=> ?_)
   dsimp only at hG9
   obtain⟨g9,L9,W9,m9,cs9,hL9,hW9,hb9,hg9,hl9,h09⟩:∃g L W m cs,rwC G9 (nx+1+4) m L cs W∧rwQ W∧G9 bx=some [.i .i64 g,L]∧srcOk bs sid G9∧(∀i,i<nx→i≠sid→G9 i=H i)∧G9 nx=some [.i .i64 0,.nl]:=by
    first
    |exact⟨x3,L,W,m1,_,rwC.start (hL.keep (fun i h1 h2=>by rw[←hG9,upd_ne _ _ (by omega),hk3 i (by omega) (by omega),upd_ne _ _ (by omega)])),hW,by rw[←hG9,upd_same],hg3.keep (by rw[←hG9,upd_ne _ _ (by omega)]),fun i hi hne=>by rw[←hG9,upd_ne _ _ (by omega),hk3 i (by omega) hne,upd_ne _ _ (by omega)];exact hl i hi hne,by rw[←hG9,upd_ne _ _ (by omega),hk3 nx (by omega) (by omega),upd_ne _ _ (by omega)];exact h0⟩
    |exact⟨g,Lz,Wz,_,csz,by rw[←hG9];exact hLz,hWz,by rw[←hG9];exact hbz,by rw[←hG9];exact hgz,fun i hi hne=>by rw[←hG9];exact hlz i hi hne,by rw[←hG9];exact h0z⟩
    |exact⟨g,L,W,m1,_,rwC.start (by rw[←hG9];exact hL),hW,by rw[←hG9];exact hb,by rw[←hG9];exact hg,fun i hi hne=>by rw[←hG9];exact hl i hi hne,by rw[←hG9];exact h0⟩
    |exact⟨g,.h (b4+14) 0 (W.length+1),W++[[x4]],m4,_,rwC.start (LC.mk (by rw[←hG9,upd_same];simp[ints]) (by simp) (by omega) (by omega)),⟨by simp;omega,app_all hW.v (by simp)⟩,by rw[←hG9];simp(disch:=omega) only[upd_ne,upd_same],hg4.keep (by rw[←hG9];simp(disch:=omega) only[upd_ne,dl_ne]),fun i hi hne=>by rw[←hG9];simp(disch:=omega) only[upd_ne,dl_ne];rw[hk4 i (by omega) hne];exact hl i hi hne,by rw[←hG9];simp(disch:=omega) only[upd_ne,dl_ne];rw[hk4 nx (by omega) (by omega)];exact h0⟩
   have hLo9:=hL9.1.one
   have hLc9:=hL9.1.cells
   simp-dsimp-implicitDefEqProofs (disch:=(first|omega|((repeat refine LC.upd (by omega) ?_);assumption))) only[go_sem,undef]
   refine AW.sr envOk (fun N hN=> ?_)
   simp-dsimp-implicitDefEqProofs (disch:=(first|omega|((repeat refine LC.upd (by omega) ?_);assumption))) only[go_sem,undef,w64,hb9,h09,hLo9,hLc9,Bool.and_true]
   refine hN _ ?_
   try clear hN N
   refine AW.ret ?_
   simp-dsimp-implicitDefEqProofs (disch:=(first|omega|((repeat refine LC.upd (by omega) ?_);assumption))) only[go_sem,undef]
   exact⟨_,fun _ _ h=>h,_,(hL9.keep (fun i h1 h2=>upd_ne _ _ (by omega)) (Nat.le_refl _)).fz (by omega),⟨_,_,rfl,hW9⟩,hg9.keep (upd_ne _ _ (by omega)),fun i hi hne=>(upd_ne _ _ (by omega)).trans (hl9 i hi hne)⟩
  ·try simp only[cn]at h2
   refine AW.sr envOk (fun N hN=> ?_)
   simp-dsimp-implicitDefEqProofs (disch:=(first|omega|((repeat refine LC.upd (by omega) ?_);assumption))) only[go_sem,undef,w64]
   refine hN _ ?_
   try clear hN N
   refine AW.cond rfl (fun h3=> ?_) (fun h3=> ?_)
   ·try simp only[cn]at h3
    refine AW.block ?_
    refine AW.loopN (α:=HP×AV×List AV×List (List Int)) (fun x=>sl 45 [(2,.q nx 0),(3,.q bx 0)]) (fun x=>x.1) (fun x m=>(m1≤m∧m2≤m)∧rwC x.1 (nx+1+4) m x.2.1 x.2.2.1 x.2.2.2∧rwQ x.2.2.2∧x.1 bx=some [.i .i64 g,x.2.1]∧srcOk bs sid x.1∧(∀i,i<nx→i≠sid→x.1 i=H i)∧x.1 nx=some [.i .i64 0,.nl]) (fun x=>13-x.2.2.2.length) ((H2,L,W.map ints,W)) ?_ ?_ (fun _ _ h=>h) ?_
    ·exact⟨⟨by first|omega|(simp only;omega)|(dsimp only;omega),by first|omega|(simp only;omega)|(dsimp only;omega)⟩,(rwC.start hL).keep (fun _ _ _=>rfl) (by first|omega|(simp only;omega)|(dsimp only;omega)),hW,hb,hg,hl,h0⟩
    ·simp(disch:=omega) [wks,wkA,sl,w64,ints,rows,cubes,w64]<;>omega
    ·skip
     rintro⟨Gz,Lz,csz,Wz⟩ m ⟨⟨hm1z,hm2z⟩,hLz,hWz,hbz,hgz,hlz,h0z⟩
     simp-dsimp-implicitDefEqProofs (disch:=(first|omega|((repeat refine LC.upd (by omega) ?_);assumption))) only[go_sem,undef]
     dsimp only at hm1z hm2z hLz hWz hbz hgz hlz h0z ⊢
     have hLoz:=hLz.1.one
     have hLlz:=hLz.1.len
     have hLbz:=hLz.1.bd
     have hclz:=hLz.2.1
     have hlen:∀k,lenX env 24 Lz k=k (.i .i64 csz.length):=fun k=>lenop_LC hLz.1 rfl rfl
     refine AW.seq (fun N2 hN2=> ?_)
     refine AW.sr envOk (fun N hN=> ?_)
     simp-dsimp-implicitDefEqProofs (disch:=(first|omega|((repeat refine LC.upd (by omega) ?_);assumption))) only[go_sem,undef,w64,hbz,↓a_lenX,hlen]
     refine hN _ ?_
     try clear hN N
     refine AW.cond rfl (fun h4=> ?_) (fun h4=> ?_)
     ·try simp only[cn]at h4
      have hW12:Wz.length≤12:=by omega
      have hLCz:=hLz.1
      refine AW.skip ?_
      simp only[thn,blk]
      refine hN2 _ ?_
      try clear hN2 N2
      refine AW.block ?_
      skip
      refine AW.regionL envOk ?_
      simp-dsimp-implicitDefEqProofs (disch:=(first|omega|((repeat refine LC.upd (by omega) ?_);assumption))) only[go_sem,undef,w64,hbz,hLoz,hLlz,dl_ne,one_lh,apst_LC (a:=nx+1+4) (b:=m) (L:=Lz) (cs:=csz)]
      refine⟨(Go.Proofs.YtlcddiojeghfgaaGreatDoor.upd (Go.Proofs.YtlcddiojeghfgaaGreatDoor.upd (dl (Go.Proofs.YtlcddiojeghfgaaGreatDoor.upd (Go.Proofs.YtlcddiojeghfgaaGreatDoor.upd Gz (m+4+2) (some [])) (m+4+3) (some [.h (m+4+2) 0 0])) Lz) (m+4+4) (some (csz++[.h (m+4+2) 0 0]))) bx (some [.i .i64 g,.h (m+4+4) 0 (csz.length+1)]),.h (m+4+4) 0 (csz.length+1),csz++[.h (m+4+2) 0 0],Wz++[[]]),?_,fun _ _ h=>h,?_,?_⟩
      ·simp(disch:=omega) [wks,wkA,sl,w64]
      ·exact⟨rwC.push hLz (by simp(disch:=omega) only[upd_ne,upd_same]) (by simp(disch:=omega) only[upd_ne,upd_same,dl_ne]) (by omega) (by omega) (by omega) (fun i hlo hi hb=>by simp(disch:=omega) only[upd_ne,dl_ne]) (by omega),⟨by simp;omega,app_all hWz.v (by simp)⟩,by simp(disch:=omega) only[upd_ne,upd_same],hgz.keep (by simp(disch:=omega) only[upd_ne,dl_ne]),fun i hi hne=>by simp(disch:=omega) only[upd_ne,dl_ne];exact hlz i hi hne,by simp(disch:=omega) only[upd_ne,dl_ne];exact h0z⟩
      ·first|(simp;omega)|(simp only[List.length_append,List.length_singleton];omega)
     ·try simp only[cn]at h4
      refine AW.exit ?_
      simp only[thn,blk,if_true]
      refine hN1 _ ?_
      try clear hN1 N1
      first|refine AW.fzpush (b4+14) (b4+12) 1 (W.map ints) [.i .i64 x4] (by simp(disch:=omega) only[upd_ne,upd_same]) (by simp(disch:=omega) only[upd_ne,upd_same,dl_ne]) rfl (by omega) ?_|skip
      refine AW.nameH (fun G9 hG9=> ?_)
      dsimp only at hG9
      obtain⟨g9,L9,W9,m9,cs9,hL9,hW9,hb9,hg9,hl9,h09⟩:∃g L W m cs,rwC G9 (nx+1+4) m L cs W∧rwQ W∧G9 bx=some [.i .i64 g,L]∧srcOk bs sid G9∧(∀i,i<nx→i≠sid→G9 i=H i)∧G9 nx=some [.i .i64 0,.nl]:=by
       first
       |exact⟨x3,L,W,m1,_,rwC.start (hL.keep (fun i h1 h2=>by rw[←hG9,upd_ne _ _ (by omega),hk3 i (by omega) (by omega),upd_ne _ _ (by omega)])),hW,by rw[←hG9,upd_same],hg3.keep (by rw[←hG9,upd_ne _ _ (by omega)]),fun i hi hne=>by rw[←hG9,upd_ne _ _ (by omega),hk3 i (by omega) hne,upd_ne _ _ (by omega)];exact hl i hi hne,by rw[←hG9,upd_ne _ _ (by omega),hk3 nx (by omega) (by omega),upd_ne _ _ (by omega)];exact h0⟩
       |exact⟨g,Lz,Wz,_,csz,by rw[←hG9];exact hLz,hWz,by rw[←hG9];exact hbz,by rw[←hG9];exact hgz,fun i hi hne=>by rw[←hG9];exact hlz i hi hne,by rw[←hG9];exact h0z⟩
       |exact⟨g,L,W,m1,_,rwC.start (by rw[←hG9];exact hL),hW,by rw[←hG9];exact hb,by rw[←hG9];exact hg,fun i hi hne=>by rw[←hG9];exact hl i hi hne,by rw[←hG9];exact h0⟩
       |exact⟨g,.h (b4+14) 0 (W.length+1),W++[[x4]],m4,_,rwC.start (LC.mk (by rw[←hG9,upd_same];simp[ints]) (by simp) (by omega) (by omega)),⟨by simp;omega,app_all hW.v (by simp)⟩,by rw[←hG9];simp(disch:=omega) only[upd_ne,upd_same],hg4.keep (by rw[←hG9];simp(disch:=omega) only[upd_ne,dl_ne]),fun i hi hne=>by rw[←hG9];simp(disch:=omega) only[upd_ne,dl_ne];rw[hk4 i (by omega) hne];exact hl i hi hne,by rw[←hG9];simp(disch:=omega) only[upd_ne,dl_ne];rw[hk4 nx (by omega) (by omega)];exact h0⟩
      have hLo9:=hL9.1.one
      have hLc9:=hL9.1.cells
      simp-dsimp-implicitDefEqProofs (disch:=(first|omega|((repeat refine LC.upd (by omega) ?_);assumption))) only[go_sem,undef]
      refine AW.sr envOk (fun N hN=> ?_)
      simp-dsimp-implicitDefEqProofs (disch:=(first|omega|((repeat refine LC.upd (by omega) ?_);assumption))) only[go_sem,undef,w64,hb9,h09,hLo9,hLc9,Bool.and_true]
      refine hN _ ?_
      try clear hN N
      refine AW.ret ?_
      simp-dsimp-implicitDefEqProofs (disch:=(first|omega|((repeat refine LC.upd (by omega) ?_);assumption))) only[go_sem,undef]
      exact⟨_,fun _ _ h=>h,_,(hL9.keep (fun i h1 h2=>upd_ne _ _ (by omega)) (Nat.le_refl _)).fz (by omega),⟨_,_,rfl,hW9⟩,hg9.keep (upd_ne _ _ (by omega)),fun i hi hne=>(upd_ne _ _ (by omega)).trans (hl9 i hi hne)⟩
   ·try simp only[cn]at h3
    refine AW.skip ?_
    simp only[thn,blk]
    refine hN1 _ ?_
    try clear hN1 N1
    first|refine AW.fzpush (b4+14) (b4+12) 1 (W.map ints) [.i .i64 x4] (by simp(disch:=omega) only[upd_ne,upd_same]) (by simp(disch:=omega) only[upd_ne,upd_same,dl_ne]) rfl (by omega) ?_|skip
    refine AW.nameH (fun G9 hG9=> ?_)
    dsimp only at hG9
    obtain⟨g9,L9,W9,m9,cs9,hL9,hW9,hb9,hg9,hl9,h09⟩:∃g L W m cs,rwC G9 (nx+1+4) m L cs W∧rwQ W∧G9 bx=some [.i .i64 g,L]∧srcOk bs sid G9∧(∀i,i<nx→i≠sid→G9 i=H i)∧G9 nx=some [.i .i64 0,.nl]:=by
     first
     |exact⟨x3,L,W,m1,_,rwC.start (hL.keep (fun i h1 h2=>by rw[←hG9,upd_ne _ _ (by omega),hk3 i (by omega) (by omega),upd_ne _ _ (by omega)])),hW,by rw[←hG9,upd_same],hg3.keep (by rw[←hG9,upd_ne _ _ (by omega)]),fun i hi hne=>by rw[←hG9,upd_ne _ _ (by omega),hk3 i (by omega) hne,upd_ne _ _ (by omega)];exact hl i hi hne,by rw[←hG9,upd_ne _ _ (by omega),hk3 nx (by omega) (by omega),upd_ne _ _ (by omega)];exact h0⟩
     |exact⟨g,Lz,Wz,_,csz,by rw[←hG9];exact hLz,hWz,by rw[←hG9];exact hbz,by rw[←hG9];exact hgz,fun i hi hne=>by rw[←hG9];exact hlz i hi hne,by rw[←hG9];exact h0z⟩
     |exact⟨g,L,W,m1,_,rwC.start (by rw[←hG9];exact hL),hW,by rw[←hG9];exact hb,by rw[←hG9];exact hg,fun i hi hne=>by rw[←hG9];exact hl i hi hne,by rw[←hG9];exact h0⟩
     |exact⟨g,.h (b4+14) 0 (W.length+1),W++[[x4]],m4,_,rwC.start (LC.mk (by rw[←hG9,upd_same];simp[ints]) (by simp) (by omega) (by omega)),⟨by simp;omega,app_all hW.v (by simp)⟩,by rw[←hG9];simp(disch:=omega) only[upd_ne,upd_same],hg4.keep (by rw[←hG9];simp(disch:=omega) only[upd_ne,dl_ne]),fun i hi hne=>by rw[←hG9];simp(disch:=omega) only[upd_ne,dl_ne];rw[hk4 i (by omega) hne];exact hl i hi hne,by rw[←hG9];simp(disch:=omega) only[upd_ne,dl_ne];rw[hk4 nx (by omega) (by omega)];exact h0⟩
    have hLo9:=hL9.1.one
    have hLc9:=hL9.1.cells
    simp-dsimp-implicitDefEqProofs (disch:=(first|omega|((repeat refine LC.upd (by omega) ?_);assumption))) only[go_sem,undef]
    refine AW.sr envOk (fun N hN=> ?_)
    simp-dsimp-implicitDefEqProofs (disch:=(first|omega|((repeat refine LC.upd (by omega) ?_);assumption))) only[go_sem,undef,w64,hb9,h09,hLo9,hLc9,Bool.and_true]
    refine hN _ ?_
    try clear hN N
    refine AW.ret ?_
    simp-dsimp-implicitDefEqProofs (disch:=(first|omega|((repeat refine LC.upd (by omega) ?_);assumption))) only[go_sem,undef]
    exact⟨_,fun _ _ h=>h,_,(hL9.keep (fun i h1 h2=>upd_ne _ _ (by omega)) (Nat.le_refl _)).fz (by omega),⟨_,_,rfl,hW9⟩,hg9.keep (upd_ne _ _ (by omega)),fun i hi hne=>(upd_ne _ _ (by omega)).trans (hl9 i hi hne)⟩
end Go.Proofs.YtlcddiojeghfgaaGreatDoor
