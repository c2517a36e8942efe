import Derived.Test.YtghmeeifjeafmaaGreatZ47
import Derived.Test.YtghmeeifjeafmaaGreatZ48
set_option linter.unusedVariables false
set_option linter.unusedSimpArgs false
namespace Go.Proofs.YtghmeeifjeafmaaGreat
open Nat (reduceAdd reduceSub reduceGT reduceEqDiff reduceMul)
theorem R.pcut {L:LM} {w:World} {M:Nat→Prop} {o:Nat} {cs ts:List AV} {u:Value} (h:R L w M (.p o cs) u) (hts:∀(k:Nat) (x:AV),ts[k]? =some x→cs[o+k]? =some x):R L w M (.p 0 ts) u:=by
  cases h with
  | p _ _ b off arr e f us hM hb hu hr=>
    refine .p 0 ts b (off+o) arr e f (fun k=>us (o+k)) hM hb (fun k hk=>?_) (fun k x hx=>hr (o+k) x (hts k x hx))
    have:=(List.getElem?_eq_some_iff.1 (hts k ts[k] (List.getElem?_eq_getElem hk))).1
    rw[Nat.add_assoc];exact hu (o+k) this
theorem ACp.p1 {P:Program} {f:FuncId} {o:Nat} {cs ts:List AV} {y r:AV} (h:ACp P f [.p 0 ts,y] r) (hts:∀(k:Nat) (x:AV),ts[k]? =some x→cs[o+k]? =some x):ACp P f [.p o cs,y] r:=
  ⟨h.1,fun L M w us h1 h2 h3=>h.2 L M w us h1 h2 ⟨h3.1,fun k x hk=>by
    match k,hk with
    |0,hk=>cases hk;exact(h3.2 0 _ rfl).pcut hts
    |1,hk=>cases hk;exact h3.2 1 _ rfl⟩⟩
theorem ACp.p2 {P:Program} {f:FuncId} {o:Nat} {cs ts:List AV} {z y r:AV} (h:ACp P f [z,.p 0 ts,y] r) (hts:∀(k:Nat) (x:AV),ts[k]? =some x→cs[o+k]? =some x):ACp P f [z,.p o cs,y] r:=
  ⟨h.1,fun L M w us h1 h2 h3=>h.2 L M w us h1 h2 ⟨h3.1,fun k x hk=>by
    match k,hk with
    |0,hk=>cases hk;exact h3.2 0 _ rfl
    |1,hk=>cases hk;exact(h3.2 1 _ rfl).pcut hts
    |2,hk=>cases hk;exact h3.2 2 _ rfl⟩⟩
section
variable (os:List Int) (pw:List (List Int)) (cj:List (List (List Int))) (ot:List Int) (qw:List (List Int)) (dj:List (List (List Int)))
theorem homC_cut (W:List (List Int)):∀(k:Nat) (x:AV),[ints ot,rows qw,cubes dj][k]? =some x→(homC os pw cj ot qw dj W)[3+k]? =some x:=fun k x hk=>by
  match k,hk with
  |0,hk=>exact hk
  |1,hk=>exact hk
  |2,hk=>exact hk
set_option maxHeartbeats 1000000 in
theorem impl_isHom_ok (hl:prlen os pw cj) (hl2:prlen ot qw dj) (hok:grpP os pw cj∧grpP ot qw dj) (xs:List (List Int)) (hx:exsP ot xs) (hxl:xs.length=os.length):ACp Tryz.prog 31 [.p 0 (homC os pw cj ot qw dj xs)] (.b (tf (hldP (pc ot qw dj) xs (rels os pw cj)))):=by
 obtain⟨⟨hp,hpc⟩,hq,hqc⟩:=hok
 have hn6:=hp.1.1
 have hn7:=hq.1.1
 have hrl:=rels_rl hp
 have hrw:=rels_word hp
 have hae:=(impl_areElements_ok ot qw dj hl2 xs (exs_rl hx (by omega) (by omega))).p1 (homC_cut os pw cj ot qw dj xs)
 have hres:ACp Tryz.prog 32 [prs os pw cj] (.t [rows (rels os pw cj),.i .i64 0]):=by
  have:=(impl_PresentationRelators_ok os pw cj hl).pure
  rw[tf_t hp]at this
  exact this
 have hrs:=(impl_respects_ok (rels os pw cj) ot qw dj hq hqc xs hx (by omega) hrl (fun j hj=>by rw[hxl];exact hrw j hj)).p2 (homC_cut os pw cj ot qw dj xs)
 have hcons:ACp Tryz.prog 34 [prs os pw cj] (.b true):=by
  have h1:=impl_IsConsistent_ok os pw cj hl
  rw[tf_t ⟨hp,hpc⟩]at h1
  exact h1
 have hae2:=hae
 rw[tf_t ⟨⟨hq,hqc⟩,hx⟩]at hae2
 have hne:(((xs.length:Nat):Int) !=((os.length:Nat):Int))=false:=by rw[hxl];simp
 have hrn:=hrl.n
 refine ACp.intro' envOk Tryz.func31 rfl (by kernel_rfl) Tryz.ntmps31 Tryz.results31 (.b _) (fun nx cX=>?_)
 refine AW.sr envOk (fun N hN=>?_);simp-dsimp-implicitDefEqProofs (disch:=omega)only[go_sem,prs,homC,ints,rows,hne,Bool.not_true];refine hN _ ?_;try clear hN N
 refine AW.seq (fun N1 hN1=>?_);refine AW.seq (fun N hN=>?_);refine AW.drawL envOk (by kernel_rfl) 31 (by kernel_rfl) ?_
 simp-dsimp-implicitDefEqProofs (disch:=omega)only[hr_nil,hr_one,hr_if,List.take_succ_cons,List.take_zero,List.drop_succ_cons,List.drop_zero,List.take_nil,List.drop_nil,go_sem,undef,prs,homC,ints,rows,w64,hne,Bool.not_true];refine⟨_,.of (hcons),?_⟩
 try simp-dsimp-implicitDefEqProofs (disch:=omega)only[go_sem,prs,homC,ints,rows,hne,Bool.not_true]
 refine⟨_,.of (hae2),?_⟩
 try simp-dsimp-implicitDefEqProofs (disch:=omega)only[go_sem,prs,homC,ints,rows,hne,Bool.not_true]
 refine hN _ ?_;try clear hN N
 refine AW.condF rfl ?_;refine AW.skip ?_;simp only[thn,blk];refine hN1 _ ?_;try clear hN1 N1
 refine AW.sr envOk (fun N hN=>?_);simp-dsimp-implicitDefEqProofs (disch:=omega)only[go_sem,prs,homC,ints,rows,hne,Bool.not_true];refine AC.pure (.of (hres)) ?_;try simp-dsimp-implicitDefEqProofs (disch:=omega)only[go_sem,prs,homC,ints,rows,hne,Bool.not_true]
 refine hN _ ?_;try clear hN N
 refine AW.seq (fun N hN=>?_);refine AW.drawL envOk (by kernel_rfl) 10 (by kernel_rfl) ?_
 simp-dsimp-implicitDefEqProofs (disch:=omega)only[hr_nil,hr_one,hr_if,List.take_succ_cons,List.take_zero,List.drop_succ_cons,List.drop_zero,List.take_nil,List.drop_nil,go_sem,undef,prs,homC,ints,rows,w64,hne,Bool.not_true];refine⟨_,.of (hrs),?_⟩
 try simp-dsimp-implicitDefEqProofs (disch:=omega)only[go_sem,prs,homC,ints,rows,hne,Bool.not_true]
 refine hN _ ?_;try clear hN N
 refine AW.ret ?_;simp-dsimp-implicitDefEqProofs (disch:=omega)only[go_sem];skip
theorem homC_all (xs:List (List Int)):((homC os pw cj ot qw dj xs).all one=true)=True:=by simp[homC,one,ints,rows,cubes]
theorem impl_IsHom_ok (hl:prlen os pw cj) (hl2:prlen ot qw dj) (hok:grpP os pw cj∧grpP ot qw dj) (xs:List (List Int)) (hx:exsP ot xs) (hxl:xs.length=os.length):ACp Tryz.prog 11 [.g (homC os pw cj ot qw dj xs)] (.b (tf (hldP (pc ot qw dj) xs (rels os pw cj)))):=by
 have hnr:=homA_nr os pw cj ot qw dj xs
 refine ACp.intro' envOk Tryz.func11 rfl (by kernel_rfl) Tryz.ntmps11 Tryz.results11 (.b _) (fun nx cX=>?_)
 refine AW.sr envOk (fun N hN=>?_);simp-dsimp-implicitDefEqProofs (disch:=omega)only[go_sem,homC_all];refine hN _ ?_;try clear hN N
 refine AW.freezeQ 1 nx _ rfl (upd_same _ _ _) ?_
 simp-dsimp-implicitDefEqProofs (disch:=omega)only[go_sem];refine AW.sr envOk (fun N hN=>?_);simp-dsimp-implicitDefEqProofs (disch:=omega)only[go_sem,homC_all];refine AC.pure (.of (impl_isHom_ok os pw cj ot qw dj hl hl2 hok xs hx hxl)) ?_;try simp-dsimp-implicitDefEqProofs (disch:=omega)only[go_sem,homC_all]
 refine hN _ ?_;try clear hN N
 refine AW.ret ?_;simp-dsimp-implicitDefEqProofs (disch:=omega)only[go_sem];skip
end
end Go.Proofs.YtghmeeifjeafmaaGreat
namespace Go.Proofs.YtghmeeifjeafmaaGreat
open Nat (reduceAdd reduceSub reduceGT reduceEqDiff reduceMul)
theorem upd_cg {H H':HP} {q z:Nat} {c:Option (List AV)} (h:H' z=H z):upd H' q c z=upd H q c z:=by
  by_cases e:z=q
  · subst e;rw[upd_same,upd_same]
  rw[upd_ne _ _ e,upd_ne _ _ e];exact h
theorem mkTd {Γ:TEnv} {P:Program} {b:Nat} {ops:List Oper} {t:Tr} {s:St} {K:St→Prop} (t':Tr) {S:St} (h1:trun Γ P b ops t' S K→trun Γ P b ops t s K) (h2:trun Γ P b ops t' S K):trun Γ P b ops t s K:=h1 h2
theorem mkUd {Γ:TEnv} {P:Program} {b:Nat} {ops:List Oper} {t:Tr} {s:St} {K:St→Prop} (t':Tr) {α:Type} {C:Nat→HP→α→Prop} {S:Nat→HP→α→St} (h1:(∀m H x,C m H x→trun Γ P b ops t' (S m H x) K)→trun Γ P b ops t s K) (h2:∀m H x,C m H x→trun Γ P b ops t' (S m H x) K):trun Γ P b ops t s K:=h1 h2
--DS 11
def tW10:Tr:= .nil
def tW9:Tr:= .br 20 tW10 .nil
def tW8:Tr:= .br 18 tW9 .nil
def tW7:Tr:= .br 19 tW9 .nil
def tW6:Tr:= .br 10 tW7 .nil
def tW5:Tr:= .br 18 tW7 (.br 19 tW8 .nil)
def tW4:Tr:= .br 9 tW6 .nil
def tW3:Tr:= .br 10 tW5 (.br 18 tW6 .nil)
def tW2:Tr:= .br 4 tW4 .nil
def tW1:Tr:= .br 9 tW3 (.br 18 tW4 .nil)
def tW0:Tr:= .br 4 tW1 (.br 18 tW2 .nil)
--END DS 11
theorem mkVd {N:St→Prop} {α:Type} {C:Nat→HP→α→Prop} {S:Nat→HP→α→St} {G:Prop} (h1:(∀m H x,C m H x→N (S m H x))→G) (h2:∀m H x,C m H x→N (S m H x)):G:=h1 h2
set_option maxHeartbeats 4000000 in
theorem spec_l07Turn_o {bs:List Int} {sid:Nat} {H:HP} (hg:srcOk bs sid H) (os:List Int) (X:List (List Int)) (Y:List (List (List Int))) (h:presOk os X Y) (nx:Nat) (hsn:sid<nx):AC Tryz.prog 77 nx H [.q sid 0,prs os X Y] (fun nx' H' r=>∃r2,Fz H' (blw nx H') r r2∧drwQ r2∧srcOk bs sid H'∧∀i,i<nx→i≠sid→H' i=H i):=by
 have hd:=h.drw
 have hn6:=h.1.1
 obtain⟨dd1,dd2,dd3,dd4⟩:=id hd
 refine AC.introx envOk Tryz.func77 rfl (by kernel_rfl) Tryz.ntmps77 Tryz.results77 (fun hfr cX=>?_)
 refine AW.sr envOk (fun N hN=>?_);simp-dsimp-implicitDefEqProofs (maxSteps:=800000) (disch:=omega)only[go_sem,prs];refine hN _ ?_;try clear hN N
 refine AW.freezeQ 3 nx [ints os,rows X,cubes Y] rfl (by simp(disch:=omega)only[upd_ne,upd_same]) ?_
 simp-dsimp-implicitDefEqProofs (maxSteps:=800000) (disch:=omega)only[go_sem];refine AW.sr envOk (fun N hN=>?_);simp-dsimp-implicitDefEqProofs (maxSteps:=800000) (disch:=omega)only[go_sem,prs];refine(spec_l07Own_f os X Y (by omega) dd2 dd3 _ (.cons (.refl _) .nil)).mono2 ?_
 rintro m1 H1 r1 hm1 ⟨P,B,rfl,hpg,hlow⟩
 have hP1:=hpg.ones.2.1
 have hB1:=hpg.ones.2.2
 try simp-dsimp-implicitDefEqProofs (maxSteps:=800000) (disch:=omega)only[go_sem,prs,hP1,hB1,ints,Bool.and_true]
 refine hN _ ?_;try clear hN N
 refine AW.freezeQ 5 (nx+2+2) _ rfl (upd_same _ _ _) ?_
 refine AW.nameH (fun G1 hG1=>?_);dsimp only at hG1
 have hl1:∀i,i<nx→i≠sid→G1 i=H i:=fun i hi hne=>by rw[←hG1];simp(disch:=omega)only[upd_ne];rw[hlow i (by omega)];simp(disch:=omega)only[upd_ne]
 have h01:G1 (nx+1)=some [.nl,.nl,.nl]:=by rw[←hG1];simp(disch:=omega)only[upd_ne];rw[hlow _ (by omega)];simp(disch:=omega)only[upd_ne,upd_same]
 have hgs:srcOk bs sid G1:=hg.keep (by rw[←hG1];simp(disch:=omega)only[upd_ne];rw[hlow _ (by omega)];simp(disch:=omega)only[upd_ne])
 replace hpg:PgO (nx+2+4) m1 G1 .nl P B [] X Y:=hpg.keep (fun i i1 i2=>by rw[←hG1];simp(disch:=omega)only[upd_ne]) (Nat.le_refl _)
 simp-dsimp-implicitDefEqProofs (maxSteps:=800000) (disch:=omega)only[go_sem];refine AW.sr envOk (fun N hN=>?_);simp-dsimp-implicitDefEqProofs (maxSteps:=800000) (disch:=omega)only[go_sem,prs];refine hN _ ?_;try clear hN N
 refine AW.sr envOk (fun N hN=>?_);simp-dsimp-implicitDefEqProofs (maxSteps:=800000) (disch:=omega)only[go_sem,prs];refine(spec_l01Next_s hgs os.length (by omega) _).mono2 ?_
 rintro m2 H2 r2 hm2 ⟨⟨x2,rfl,hx2⟩,hg2,hk2⟩
 obtain⟨i,rfl⟩:=Int.eq_ofNat_of_zero_le hx2.1
 try simp-dsimp-implicitDefEqProofs (maxSteps:=800000) (disch:=omega)only[go_sem,prs]
 refine hN _ ?_;try clear hN N
 refine AW.sr envOk (fun N hN=>?_);simp-dsimp-implicitDefEqProofs (maxSteps:=800000) (disch:=omega)only[go_sem,prs];refine(spec_l01Next_s hg2 ((os.length:Int)-1-i) (by omega) _).mono2 ?_
 rintro m3 H3 r3 hm3 ⟨⟨x3,rfl,hx3⟩,hg3,hk3⟩
 obtain⟨j,hj⟩:∃j:Nat,(i:Int)+1+x3=j:=⟨((i:Int)+1+x3).toNat,by omega⟩
 have hk:∀q,q<m1→q≠sid→H3 q=G1 q:=fun q h1 h2=>(hk3 q (by omega) h2).trans (hk2 q (by omega) h2)
 have hpg3:PgO (nx+2+4) m1 H3 .nl P B [] X Y:=hpg.keep (fun q q1 q2=>hk q q2 (by omega)) (Nat.le_refl _)
 have h03:H3 (nx+1)=some [.nl,.nl,.nl]:=(hk _ (by omega) (by omega)).trans h01
 have hl3:∀q,q<nx→q≠sid→H3 q=H q:=fun q h1 h2=>(hk q (by omega) h2).trans (hl1 q h1 h2)
 try simp-dsimp-implicitDefEqProofs (maxSteps:=800000) (disch:=omega)only[go_sem,hj]
 refine hN _ ?_;try clear hN N
 refine AW.seq (fun N1 hN1=>?_);refine AW.sr envOk (fun N hN=>?_);simp-dsimp-implicitDefEqProofs (maxSteps:=800000) (disch:=omega)only[go_sem,prs];refine hN _ ?_;try clear hN N
 refine AW.cond rfl (fun h1=>?_) (fun h1=>?_)
 ·try simp only[cn]at h1
  refine AW.sr envOk (fun N hN=>?_);simp-dsimp-implicitDefEqProofs (maxSteps:=800000) (disch:=omega)only[go_sem,prs,hP1,hB1,h03,ints,Bool.and_true];refine hN _ ?_;try clear hN N
  refine AW.ret ?_;simp-dsimp-implicitDefEqProofs (maxSteps:=800000) (disch:=omega)only[go_sem];exact⟨_,fun _ _ h=>h,_,(hpg3.keep (fun q q1 q2=>upd_ne _ _ (by omega)) (Nat.le_refl _)).fz2 (by omega),⟨os,X,Y,rfl,hd⟩,hg3.keep (upd_ne _ _ (by omega)),fun q hq hne=>(upd_ne _ _ (by omega)).trans (hl3 q hq hne)⟩
 try simp only[cn]at h1
 have hi:i<os.length:=by omega
 have hjn:j<os.length:=by omega
 have hod:=dd4 (os.getD j 0) (by rw[List.getD_eq_getElem?_getD,List.getElem?_eq_getElem hjn];exact List.getElem_mem _)
 obtain⟨⟨q1,q2,q3⟩,q4,q5,q6⟩:=id h
 have hr1:=(q6 i hi).1.1
 have hr2:=(q6 i hi).2.1
 have hr3:=fun e he=>((q6 i hi).2.2 e he).1
 refine AW.skip ?_;simp only[thn,blk];refine hN1 _ ?_;try clear hN1 N1
 refine AW.seq (fun N2 hN2=>?_);refine AW.sr envOk (fun N hN=>?_);simp-dsimp-implicitDefEqProofs (maxSteps:=800000) (disch:=omega)only[go_sem,prs];refine(spec_l01Next_s hg3 3 (by omega) _).mono2 ?_
 rintro m4 H4 r4 hm4 ⟨⟨x4,rfl,hx4⟩,hg4,hk4⟩
 have hpg4:PgO (nx+2+4) m1 H4 .nl P B [] X Y:=hpg3.keep (fun q q1 q2=>hk4 q (by omega) (by omega)) (Nat.le_refl _)
 have h04:H4 (nx+1)=some [.nl,.nl,.nl]:=(hk4 _ (by omega) (by omega)).trans h03
 have hl4:∀q,q<nx→q≠sid→H4 q=H q:=fun q h1 h2=>(hk4 q (by omega) h2).trans (hl3 q h1 h2)
 try simp-dsimp-implicitDefEqProofs (maxSteps:=800000) (disch:=omega)only[go_sem,prs]
 refine hN _ ?_;try clear hN N
 refine AW.cond rfl (fun h2=>?_) (fun h2=>?_)
 ·try simp only[cn]at h2
  obtain⟨p,rs,q,rfl,hp,hrl,hrq,hq,hpb,hqb,hpq,hput⟩:=hpg4.putR (k:=i) (l:=j) (by omega) (by omega)
  refine AW.seq (fun N hN=>?_);apply mkVd (N:=N)
  ·intro key
   refine AW.drawT envOk (by kernel_rfl) [true,true,true,true,false,true,true,true,true,true,true,true,false,false,false] (.br 4 (.br 12 (.br 13 (.br 14 .nil .nil) .nil) (.br 13 (.br 12 (.br 14 .nil .nil) .nil) .nil)) (.br 12 (.br 4 (.br 13 (.br 14 .nil .nil) .nil) .nil) .nil)) (by kernel_rfl) ?_
   simp-dsimp-implicitDefEqProofs (maxSteps:=800000) (disch:=omega)only[go_sem,prs,hp,hrl,hrq,hq,gd_i,ints];refine⟨⟨?_,?_⟩,?_⟩
   all_goals
    refine(spec_l01Next_s hg4 (os.getD j 0) (by omega) _).mono2 ?_
    rintro m5 H5 r5 hm5 ⟨⟨x5,rfl,hx5⟩,hg5,hk5⟩
    have hp5:=(hk5 p (by omega) (by omega)).trans hp
    have hq5:=(hk5 q (by omega) (by omega)).trans hq
    try simp-dsimp-implicitDefEqProofs (maxSteps:=800000) (disch:=omega)only[go_sem,hp5,hq5,hrl,hrq,List.length_map]
    exact key m5 H5 x5 (And.intro hm5 (And.intro hg5 hk5))
  intro m5 H5 x5 hC
  obtain⟨hm5,hg5,hk5⟩:=hC
  have h05:H5 (nx+1)=some [.nl,.nl,.nl]:=(hk5 _ (by omega) (by omega)).trans h04
  have hl5:∀z,z<nx→z≠sid→H5 z=H z:=fun z h1 h2=>(hk5 z (by omega) h2).trans (hl4 z h1 h2)
  have hpg5:=(hput x5).keep (H':=upd H5 q (some (splice ((X.getD i []).map (.i .i64)) j [.i .i64 x5]))) (fun z z1 z2=>upd_cg (hk5 z (by omega) (by omega))) (Nat.le_refl _)
  refine hN _ ?_;try clear hN N
  refine AW.sr envOk (fun N hN=>?_);simp-dsimp-implicitDefEqProofs (maxSteps:=800000) (disch:=omega)only[go_sem,prs,hP1,hB1,h05,ints,Bool.and_true];refine hN _ ?_;try clear hN N
  refine AW.ret ?_;simp-dsimp-implicitDefEqProofs (maxSteps:=800000) (disch:=omega)only[go_sem];exact⟨_,fun _ _ h=>h,_,(hpg5.keep (fun z z1 z2=>upd_ne _ _ (by omega)) (Nat.le_refl _)).fz2 (by omega),⟨os,_,Y,rfl,dd1,dd2.set (by rw[List.length_set];omega),dd3,dd4⟩,hg5.keep ((upd_ne _ _ (by omega)).trans (upd_ne _ _ (by omega))),fun z hz hne=>(upd_ne _ _ (by omega)).trans ((upd_ne _ _ (by omega)).trans (hl5 z hz hne))⟩
 try simp only[cn]at h2
 refine AW.skip ?_;simp only[thn,blk];refine hN2 _ ?_;try clear hN2 N2
 refine AW.sr envOk (fun N hN=>?_);simp-dsimp-implicitDefEqProofs (maxSteps:=800000) (disch:=omega)only[go_sem,prs];refine(spec_l01Next_s hg4 ((os.length:Int)-1-i) (by omega) _).mono2 ?_
 rintro m6 H6 r6 hm6 ⟨⟨x6,rfl,hx6⟩,hg6,hk6⟩
 obtain⟨e,rfl⟩:=Int.eq_ofNat_of_zero_le hx6.1
 have hen:e<os.length-1-i:=by omega
 have h06:H6 (nx+1)=some [.nl,.nl,.nl]:=(hk6 _ (by omega) (by omega)).trans h04
 have hl6:∀z,z<nx→z≠sid→H6 z=H z:=fun z h1 h2=>(hk6 z (by omega) h2).trans (hl4 z h1 h2)
 have hpg6:PgO (nx+2+4) m1 H6 .nl P B [] X Y:=hpg4.keep (fun q q1 q2=>hk6 q (by omega) (by omega)) (Nat.le_refl _)
 have he:(i:Int)+1+e-i-1=e:=by omega
 have hr4:=hr3 e (by omega)
 obtain⟨b,bs1,p,rs,q,rfl,hb,hbl,hbp,hp,hrl,hrq,hq,hbb,hpb,hqb,hne3,hput⟩:=hpg6.putC (c:=i) (k:=e) (l:=j) (by omega) (by omega) (by omega)
 try simp-dsimp-implicitDefEqProofs (maxSteps:=800000) (disch:=omega)only[go_sem,prs]
 refine hN _ ?_;try clear hN N
 refine AW.seq (fun N hN=>?_);apply mkVd (N:=N)
 ·intro key
  refine AW.drawT envOk (by kernel_rfl) [true,true,true,true,false,true,true,true,true,false,false,true,true,true,true,true,true,true,false,false,false] (tW0) (by kernel_rfl) ?_
  simp-dsimp-implicitDefEqProofs (maxSteps:=800000) (disch:=omega)only[go_sem,prs,hb,hbl,hbp,hp,hrl,hrq,hq,gd_i,ints,he];apply mkUd tW10 (C:=fun m H x=>m6+21≤m∧srcOk bs sid H∧∀i,i<m6+21→i≠sid→H i=H6 i)
  intro htW10
  apply mkUd tW9 (C:=fun m H x=>m6+21≤m∧srcOk bs sid H∧∀i,i<m6+21→i≠sid→H i=H6 i)
  intro htW9
  apply mkTd tW8
  intro htW8
  apply mkUd tW7 (C:=fun m H x=>m6+21≤m∧srcOk bs sid H∧∀i,i<m6+21→i≠sid→H i=H6 i)
  intro htW7
  apply mkUd tW6 (C:=fun m H x=>m6+21≤m∧srcOk bs sid H∧∀i,i<m6+21→i≠sid→H i=H6 i)
  intro htW6
  apply mkTd tW5
  intro htW5
  apply mkUd tW4 (C:=fun m H x=>m6+21≤m∧srcOk bs sid H∧∀i,i<m6+21→i≠sid→H i=H6 i)
  intro htW4
  apply mkTd tW3
  intro htW3
  apply mkUd tW2 (C:=fun m H x=>m6+21≤m∧srcOk bs sid H∧∀i,i<m6+21→i≠sid→H i=H6 i)
  intro htW2
  apply mkTd tW1
  intro htW1
  ·rw[tW0]
   try simp-dsimp-implicitDefEqProofs (maxSteps:=800000) (disch:=omega)only[go_sem,hb,hbl,hbp,hp,hrl,hrq,he,gd_i,ints]
   repeat' (with_reducible refine And.intro ?_ ?_)
   all_goals try (with_reducible first|exact htW1)
   refine(spec_l01Next_s hg6 (os.getD j 0) (by omega) _).mono2 ?_
   rintro m9 H9 r9 hm9 ⟨⟨x9,rfl,hx9⟩,hg9,hk9⟩
   try simp-dsimp-implicitDefEqProofs (maxSteps:=800000) (disch:=omega)only[go_sem,hb,hbl,hbp,hp,hrl,hrq,he,gd_i,ints]
   exact htW2 m9 H9 x9 (And.intro hm9 (And.intro hg9 hk9))
  ·rw[tW1]
   try simp-dsimp-implicitDefEqProofs (maxSteps:=800000) (disch:=omega)only[go_sem,hb,hbl,hbp,hp,hrl,hrq,he,gd_i,ints]
   repeat' (with_reducible refine And.intro ?_ ?_)
   all_goals try (with_reducible first|exact htW3)
   refine(spec_l01Next_s hg6 (os.getD j 0) (by omega) _).mono2 ?_
   rintro m9 H9 r9 hm9 ⟨⟨x9,rfl,hx9⟩,hg9,hk9⟩
   try simp-dsimp-implicitDefEqProofs (maxSteps:=800000) (disch:=omega)only[go_sem,hb,hbl,hbp,hp,hrl,hrq,he,gd_i,ints]
   exact htW4 m9 H9 x9 (And.intro hm9 (And.intro hg9 hk9))
  ·intro m9 H9 x9 hC
   have hb7:=(hC.2.2 b (by omega) (by omega)).trans hb
   have hp7:=(hC.2.2 p (by omega) (by omega)).trans hp
   have hq7:=(hC.2.2 q (by omega) (by omega)).trans hq
   rw[tW2]
   try simp-dsimp-implicitDefEqProofs (maxSteps:=800000) (disch:=omega)only[go_sem,hb7,hp7,hq7,hbl,hbp,hrl,hrq,he,List.length_map]
   repeat' (with_reducible refine And.intro ?_ ?_)
   all_goals try (with_reducible first|exact htW4 m9 H9 x9 hC)
  ·rw[tW3]
   try simp-dsimp-implicitDefEqProofs (maxSteps:=800000) (disch:=omega)only[go_sem,hb,hbl,hbp,hp,hrl,hrq,he,gd_i,ints]
   repeat' (with_reducible refine And.intro ?_ ?_)
   all_goals try (with_reducible first|exact htW5)
   refine(spec_l01Next_s hg6 (os.getD j 0) (by omega) _).mono2 ?_
   rintro m9 H9 r9 hm9 ⟨⟨x9,rfl,hx9⟩,hg9,hk9⟩
   try simp-dsimp-implicitDefEqProofs (maxSteps:=800000) (disch:=omega)only[go_sem,hb,hbl,hbp,hp,hrl,hrq,he,gd_i,ints]
   exact htW6 m9 H9 x9 (And.intro hm9 (And.intro hg9 hk9))
  ·intro m9 H9 x9 hC
   have hb7:=(hC.2.2 b (by omega) (by omega)).trans hb
   have hp7:=(hC.2.2 p (by omega) (by omega)).trans hp
   have hq7:=(hC.2.2 q (by omega) (by omega)).trans hq
   rw[tW4]
   try simp-dsimp-implicitDefEqProofs (maxSteps:=800000) (disch:=omega)only[go_sem,hb7,hp7,hq7,hbl,hbp,hrl,hrq,he,List.length_map]
   repeat' (with_reducible refine And.intro ?_ ?_)
   all_goals try (with_reducible first|exact htW6 m9 H9 x9 hC)
  ·rw[tW5]
   try simp-dsimp-implicitDefEqProofs (maxSteps:=800000) (disch:=omega)only[go_sem,hb,hbl,hbp,hp,hrl,hrq,he,gd_i,ints]
   repeat' (with_reducible refine And.intro ?_ ?_)
   all_goals try (with_reducible first|exact htW8)
   refine(spec_l01Next_s hg6 (os.getD j 0) (by omega) _).mono2 ?_
   rintro m9 H9 r9 hm9 ⟨⟨x9,rfl,hx9⟩,hg9,hk9⟩
   try simp-dsimp-implicitDefEqProofs (maxSteps:=800000) (disch:=omega)only[go_sem,hb,hbl,hbp,hp,hrl,hrq,he,gd_i,ints]
   exact htW7 m9 H9 x9 (And.intro hm9 (And.intro hg9 hk9))
  ·intro m9 H9 x9 hC
   have hb7:=(hC.2.2 b (by omega) (by omega)).trans hb
   have hp7:=(hC.2.2 p (by omega) (by omega)).trans hp
   have hq7:=(hC.2.2 q (by omega) (by omega)).trans hq
   rw[tW6]
   try simp-dsimp-implicitDefEqProofs (maxSteps:=800000) (disch:=omega)only[go_sem,hb7,hp7,hq7,hbl,hbp,hrl,hrq,he,List.length_map]
   repeat' (with_reducible refine And.intro ?_ ?_)
   all_goals try (with_reducible first|exact htW7 m9 H9 x9 hC)
  ·intro m9 H9 x9 hC
   have hb7:=(hC.2.2 b (by omega) (by omega)).trans hb
   have hp7:=(hC.2.2 p (by omega) (by omega)).trans hp
   have hq7:=(hC.2.2 q (by omega) (by omega)).trans hq
   rw[tW7]
   try simp-dsimp-implicitDefEqProofs (maxSteps:=800000) (disch:=omega)only[go_sem,hb7,hp7,hq7,hbl,hbp,hrl,hrq,he,List.length_map]
   repeat' (with_reducible refine And.intro ?_ ?_)
   all_goals try (with_reducible first|exact htW9 m9 H9 x9 hC)
  ·rw[tW8]
   try simp-dsimp-implicitDefEqProofs (maxSteps:=800000) (disch:=omega)only[go_sem,hb,hbl,hbp,hp,hrl,hrq,he,gd_i,ints]
   repeat' (with_reducible refine And.intro ?_ ?_)
   refine(spec_l01Next_s hg6 (os.getD j 0) (by omega) _).mono2 ?_
   rintro m9 H9 r9 hm9 ⟨⟨x9,rfl,hx9⟩,hg9,hk9⟩
   try simp-dsimp-implicitDefEqProofs (maxSteps:=800000) (disch:=omega)only[go_sem,hb,hbl,hbp,hp,hrl,hrq,he,gd_i,ints]
   exact htW9 m9 H9 x9 (And.intro hm9 (And.intro hg9 hk9))
  ·intro m9 H9 x9 hC
   have hb7:=(hC.2.2 b (by omega) (by omega)).trans hb
   have hp7:=(hC.2.2 p (by omega) (by omega)).trans hp
   have hq7:=(hC.2.2 q (by omega) (by omega)).trans hq
   rw[tW9]
   try simp-dsimp-implicitDefEqProofs (maxSteps:=800000) (disch:=omega)only[go_sem,hb7,hp7,hq7,hbl,hbp,hrl,hrq,he,List.length_map]
   repeat' (with_reducible refine And.intro ?_ ?_)
   all_goals try (with_reducible first|exact htW10 m9 H9 x9 hC)
  intro m9 H9 x9 hC
  have hb7:=(hC.2.2 b (by omega) (by omega)).trans hb
  have hp7:=(hC.2.2 p (by omega) (by omega)).trans hp
  have hq7:=(hC.2.2 q (by omega) (by omega)).trans hq
  rw[tW10]
  try simp-dsimp-implicitDefEqProofs (maxSteps:=800000) (disch:=omega)only[go_sem,hb7,hp7,hq7,hbl,hbp,hrl,hrq,he,List.length_map]
  exact key m9 H9 x9 hC
 intro m7 H7 x7 hC
 obtain⟨hm7,hg7,hk7⟩:=hC
 have h07:H7 (nx+1)=some [.nl,.nl,.nl]:=(hk7 _ (by omega) (by omega)).trans h06
 have hl7:∀z,z<nx→z≠sid→H7 z=H z:=fun z h1 h2=>(hk7 z (by omega) h2).trans (hl6 z h1 h2)
 have hpg7:=(hput x7).keep (H':=upd H7 q (some (splice (((Y.getD i []).getD e []).map (.i .i64)) j [.i .i64 x7]))) (fun z z1 z2=>upd_cg (hk7 z (by omega) (by omega))) (Nat.le_refl _)
 refine hN _ ?_;try clear hN N
 refine AW.sr envOk (fun N hN=>?_);simp-dsimp-implicitDefEqProofs (maxSteps:=800000) (disch:=omega)only[go_sem,prs,hP1,hB1,h07,ints,Bool.and_true];refine hN _ ?_;try clear hN N
 refine AW.ret ?_;simp-dsimp-implicitDefEqProofs (maxSteps:=800000) (disch:=omega)only[go_sem];exact⟨_,fun _ _ h=>h,_,(hpg7.keep (fun z z1 z2=>upd_ne _ _ (by omega)) (Nat.le_refl _)).fz2 (by omega),⟨os,X,_,rfl,dd1,dd2,dd3.set ((dd3.row i).set (by rw[List.length_set];omega)),dd4⟩,hg7.keep ((upd_ne _ _ (by omega)).trans (upd_ne _ _ (by omega))),fun z hz hne=>(upd_ne _ _ (by omega)).trans ((upd_ne _ _ (by omega)).trans (hl7 z hz hne))⟩
theorem spec_l07Turn_s {bs:List Int} {sid:Nat} {H:HP} (hg:srcOk bs sid H) (os:List Int) (X:List (List Int)) (Y:List (List (List Int))) (h:presOk os X Y) (nx:Nat) (hsn:sid<nx):AC Tryz.prog 77 nx H [.q sid 0,prs os X Y] (sK bs sid nx H drwQ):=AC.zs hsn (spec_l07Turn_o hg os X Y h nx hsn)
end Go.Proofs.YtghmeeifjeafmaaGreat
