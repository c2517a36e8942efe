import Derived.Test.YtghmeeifjeafmaaGreatZ18
import Derived.Test.YtghmeeifjeafmaaGreatZ24
set_option linter.unusedVariables false
set_option linter.unusedSimpArgs false
namespace Go.Proofs.YtghmeeifjeafmaaGreat
open Nat (reduceAdd reduceSub reduceGT reduceEqDiff reduceMul)
section
variable {P:Pc}
theorem gu_mul (hv:Val P) {j:Nat} (hj:j<P.n) (hg:Grp (T P (j+1)) (M P (j+1))) {y:V} (ty:T P (j+1) y) {a:Int} (h0:0≤a) (h1:a<P.o j):M P j (fset z0 j a) y=fset y j a:=by
  have hy:=ty.z j (by omega)
  rw[M_lt hj]
  unfold stp
  rw[hy,fset_at,if_neg (by omega),fset_fset,fset_z0,fset_id hy]
  show fset (M P (j+1) z0 y) j _=_
  rw[hg.l1 ty]
  congr 1;omega
theorem gu_gu (hv:Val P) {j:Nat} (hj:j<P.n) (hg:Grp (T P (j+1)) (M P (j+1))) {a:Int} (h0:0<a) (h1:a<P.o j):M P j (fset z0 j a) (fset z0 j (P.o j-a))=P.pw j:=by
  rw[M_lt hj]
  unfold stp
  rw[fset_at,fset_at,if_pos (by omega),fset_fset,fset_fset,fset_z0,itr_img0 hv,hg.l1 hg.e0,hg.r1 (hv.pw j hj)]
  exact fset_id (by rw[(hv.pw j hj).z j (by omega)];omega)
theorem inv_lev (hv:Val P) {j:Nat} (hj:j<P.n) (hg:Grp (T P j) (M P j)) (hg1:Grp (T P (j+1)) (M P (j+1))) {x:V} (hx:T P j x) (h0:x j≠0):
    inv P j x=M P j (M P j (inv P (j+1) (fset x j 0)) (fset z0 j (P.o j-x j))) (inv P (j+1) (P.pw j)):=by
  have hr:=hx.r j (Nat.le_refl _) hj
  have tz:=T.zero hv (j+1)
  obtain⟨t1,t2⟩:=inv_T hg1 hx.cut
  obtain⟨t3,t4⟩:=inv_T hg1 (hv.pw j hj)
  have u1:T P j (fset z0 j (x j)):=T.put hj tz hr.1 hr.2
  have u2:T P j (fset z0 j (P.o j-x j)):=T.put hj tz (by omega) (by omega)
  have m1:=t1.mono hv (show j≤j+1 by omega)
  have m3:=t3.mono hv (show j≤j+1 by omega)
  have mc:=hx.cut.mono hv (show j≤j+1 by omega)
  have mp:=(hv.pw j hj).mono hv (show j≤j+1 by omega)
  refine(inv_eq hg hx (hg.cl (hg.cl m1 u2) m3) ?_).symm
  have e1:M P j x (inv P (j+1) (fset x j 0))=fset z0 j (x j):=by
    have e2:x=M P j (fset z0 j (x j)) (fset x j 0):=by rw[gu_mul hv hj hg1 hx.cut hr.1 hr.2,fset_eta]
    have e3:M P j (M P j (fset z0 j (x j)) (fset x j 0)) (inv P (j+1) (fset x j 0))=fset z0 j (x j):=by
      rw[hg.ac u1 mc m1,M_sub1 hv hx.cut t1,t2,hg.r1 u1]
    rw[←e2]at e3;exact e3
  rw[←hg.ac hx (hg.cl m1 u2) m3,←hg.ac hx m1 u2,e1,gu_gu hv hj hg1 (by omega) hr.2,M_sub1 hv (hv.pw j hj) t3,t4]
theorem inv_lev0 (hv:Val P) {j:Nat} (hj:j<P.n) (hg:Grp (T P j) (M P j)) (hg1:Grp (T P (j+1)) (M P (j+1))) {x:V} (hx:T P j x) (h0:x j=0):inv P j x=inv P (j+1) (fset x j 0):=by
  obtain⟨t1,t2⟩:=inv_T hg1 hx.cut
  refine(inv_eq hg hx (t1.mono hv (by omega)) ?_).symm
  have e:fset x j 0=x:=fset_id h0
  have t0:=hx.cut
  rw[e]at t1 t2 t0 ⊢
  rw[M_sub1 hv t0 t1,t2]
end
theorem spec_l10From_step (os:List Int) (pw:List (List Int)) (cj:List (List (List Int))) (h:presOk os pw cj) (i:Nat) (hi:i<os.length) (hc:Con (pc os pw cj) i) (hF:∀a,T (pc os pw cj) (i+1) a→ACp Tryz.prog 136 [prs os pw cj,.i .i64 ((i:Int)+1),vi os.length a] (vi os.length (inv (pc os pw cj) (i+1) a))) (a:V) (ha:T (pc os pw cj) i a):ACp Tryz.prog 136 [prs os pw cj,.i .i64 i,vi os.length a] (vi os.length (inv (pc os pw cj) i a)):=by
 have hv:=h.val
 have hn6:=h.1.1
 have hpl:=h.1.2.1
 have hg:=con_grp hv hc
 have hg1:=con_grp hv (hc.mono (show i≤i+1 by omega))
 have hoi:=h.o7 hi
 have hoi':(pc os pw cj).o i=os.getD i 0:=rfl
 have hri:=ha.r i (Nat.le_refl _) hi
 have e2:AV.v (pw.getD i []).length (List.map (AV.i IntKind.i64) (pw.getD i []))=vi os.length ((pc os pw cj).pw i):=ints_vi (h.pwl hi)
 have t1:=(inv_T hg1 ha.cut).1.mono hv (show i≤i+1 by omega)
 have t3:=(inv_T hg1 (hv.pw i hi)).1.mono hv (show i≤i+1 by omega)
 refine ACp.intro' envOk Tryz.func136 rfl (by kernel_rfl) Tryz.ntmps136 Tryz.results136 (vi_nr _ _) (fun nx cX=>?_)
 refine AW.sr envOk (fun N hN=>?_);simp-dsimp-implicitDefEqProofs (disch:=omega)only[go_sem,prs,prsP,ints,rows,cubes,gd_i,gd_r,vi];refine hN _ ?_;try clear hN N
 refine AW.freezeQ 3 nx _ rfl (upd_same _ _ _) ?_
 simp-dsimp-implicitDefEqProofs (disch:=omega)only[go_sem];refine AW.sr envOk (fun N hN=>?_);simp-dsimp-implicitDefEqProofs (disch:=omega)only[go_sem,prs,prsP,ints,rows,cubes,gd_i,gd_r,vi];refine hN _ ?_;try clear hN N
 refine AW.seq (fun N1 hN1=>?_);refine AW.sr envOk (fun N hN=>?_);simp-dsimp-implicitDefEqProofs (disch:=omega)only[go_sem,prs,prsP,ints,rows,cubes,gd_i,gd_r,vi];refine hN _ ?_;try clear hN N
 refine AW.cond rfl (fun h1=>?_) (fun h1=>?_)
 ·try simp only[cn]at h1
  exfalso;omega
 try simp only[cn]at h1
 refine AW.skip ?_;simp only[thn,blk];refine hN1 _ ?_;try clear hN1 N1
 refine AW.sr envOk (fun N hN=>?_);simp-dsimp-implicitDefEqProofs (disch:=omega)only[go_sem,prs,prsP,ints,rows,cubes,gd_i,gd_r,vi];refine(spec_l01Own_f a (by omega) _ _).mono ?_
 rintro nx1 H1 r1 ⟨id1,rfl,g1,g2,rfl⟩
 try simp-dsimp-implicitDefEqProofs (disch:=omega)only[go_sem,prs,prsP,ints,rows,cubes,gd_i,gd_r,vi]
 refine hN _ ?_;try clear hN N
 refine AW.sr envOk (fun N hN=>?_);simp-dsimp-implicitDefEqProofs (disch:=omega)only[go_sem,prs,prsP,ints,rows,cubes,gd_i,gd_r,vi];refine hN _ ?_;try clear hN N
 refine AW.freeze 8 id1 os.length (ivs os.length (fset a i 0)) rfl (by simp(disch:=omega)only[upd_same,upd_ne]) ivs_len ?_
 simp-dsimp-implicitDefEqProofs (disch:=omega)only[go_sem];refine AW.sr envOk (fun N hN=>?_);simp-dsimp-implicitDefEqProofs (disch:=omega)only[go_sem,prs,prsP,ints,rows,cubes,gd_i,gd_r,vi];refine AC.pure (.of (hF _ ha.cut)) ?_;try simp-dsimp-implicitDefEqProofs (disch:=omega)only[go_sem,prs,prsP,ints,rows,cubes,gd_i,gd_r,vi]
 refine hN _ ?_;try clear hN N
 refine AW.seq (fun N2 hN2=>?_);refine AW.sr envOk (fun N hN=>?_);simp-dsimp-implicitDefEqProofs (disch:=omega)only[go_sem,prs,prsP,ints,rows,cubes,gd_i,gd_r,vi];refine hN _ ?_;try clear hN N
 refine AW.cond rfl (fun h2=>?_) (fun h2=>?_)
 ·try simp only[cn]at h2
  refine AW.sr envOk (fun N hN=>?_);simp-dsimp-implicitDefEqProofs (disch:=omega)only[go_sem,prs,prsP,ints,rows,cubes,gd_i,gd_r,vi];refine hN _ ?_;try clear hN N
  refine AW.ret ?_;simp-dsimp-implicitDefEqProofs (disch:=omega)only[go_sem];rw[inv_lev0 hv hi hg hg1 ha h2];rfl
 try simp only[cn]at h2
 have hai:0<a i:=by omega
 have tu:T (pc os pw cj) i (fset z0 i ((pc os pw cj).o i-a i)):=T.put hi (T.zero hv _) (by omega) (by omega)
 refine AW.skip ?_;simp only[thn,blk];refine hN2 _ ?_;try clear hN2 N2
 refine AW.sr envOk (fun N hN=>?_);simp-dsimp-implicitDefEqProofs (disch:=omega)only[go_sem,prs,prsP,ints,rows,cubes,gd_i,gd_r,vi];refine hN _ ?_;try clear hN N
 rw[ivs_zero]
 refine AW.seq (fun N hN=>?_);refine AW.drawL envOk (by kernel_rfl) 13 (by kernel_rfl) ?_
 simp-dsimp-implicitDefEqProofs (disch:=omega)only[hr_nil,hr_one,hr_if,List.take_succ_cons,List.take_zero,List.drop_succ_cons,List.drop_zero,List.take_nil,List.drop_nil,go_sem,undef,prs,prsP,ints,rows,cubes,gd_i,gd_r,w64,vi];refine hN _ ?_;try clear hN N
 refine AW.freeze 10 (nx1+4+6+5+1) os.length (ivs os.length (fset z0 i ((pc os pw cj).o i-a i))) rfl (upd_same _ _ _) ivs_len ?_
 simp-dsimp-implicitDefEqProofs (disch:=omega)only[go_sem];refine AW.seq (fun N hN=>?_);refine AW.drawL envOk (by kernel_rfl) 18 (by kernel_rfl) ?_
 simp-dsimp-implicitDefEqProofs (disch:=omega)only[hr_nil,hr_one,hr_if,List.take_succ_cons,List.take_zero,List.drop_succ_cons,List.drop_zero,List.take_nil,List.drop_nil,go_sem,undef,prs,prsP,ints,rows,cubes,gd_i,gd_r,w64,vi];refine⟨_,.of (spec_l08At_ok os pw cj h i (by omega) _ _ t1 tu),?_⟩
 try simp-dsimp-implicitDefEqProofs (disch:=omega)only[go_sem,prs,prsP,ints,rows,cubes,gd_i,gd_r,vi]
 rw[e2]
 refine⟨_,.of (hF _ (hv.pw i hi)),?_⟩
 try simp-dsimp-implicitDefEqProofs (disch:=omega)only[go_sem,prs,prsP,ints,rows,cubes,gd_i,gd_r,vi]
 refine⟨_,.of (spec_l08At_ok os pw cj h i (by omega) _ _ (hg.cl t1 tu) t3),?_⟩
 try simp-dsimp-implicitDefEqProofs (disch:=omega)only[go_sem,prs,prsP,ints,rows,cubes,gd_i,gd_r,vi]
 refine hN _ ?_;try clear hN N
 refine AW.ret ?_;simp-dsimp-implicitDefEqProofs (disch:=omega)only[go_sem];rw[inv_lev hv hi hg hg1 ha (by omega)];rfl
theorem spec_l10From_end (os:List Int) (pw:List (List Int)) (cj:List (List (List Int))) (h:presOk os pw cj) (a:V) (ha:T (pc os pw cj) os.length a):ACp Tryz.prog 136 [prs os pw cj,.i .i64 os.length,vi os.length a] (vi os.length (inv (pc os pw cj) os.length a)):=by
 have hn6:=h.1.1
 have hg:=con_grp h.val (show Con (pc os pw cj) os.length from fun i h1 h2=>absurd h2 (by have:(pc os pw cj).n=os.length:=rfl;omega))
 refine ACp.introV envOk Tryz.func136 rfl (by kernel_rfl) Tryz.ntmps136 Tryz.results136 ((vi_nr _ _)) (fun nx cX=>?_)
 refine AW.sr envOk (fun N hN=>?_);simp-dsimp-implicitDefEqProofs (disch:=omega)only[go_sem,prs,prsP,ints,rows,cubes,vi];refine hN _ ?_;try clear hN N
 refine AW.freezeQ 3 nx _ rfl (upd_same _ _ _) ?_
 simp-dsimp-implicitDefEqProofs (disch:=omega)only[go_sem];refine AW.sr envOk (fun N hN=>?_);simp-dsimp-implicitDefEqProofs (disch:=omega)only[go_sem,prs,prsP,ints,rows,cubes,vi];refine hN _ ?_;try clear hN N
 refine AW.seq (fun N1 hN1=>?_);refine AW.sr envOk (fun N hN=>?_);simp-dsimp-implicitDefEqProofs (disch:=omega)only[go_sem,prs,prsP,ints,rows,cubes,vi];refine hN _ ?_;try clear hN N
 refine AW.cond rfl (fun h1=>?_) (fun h1=>?_)
 ·try simp only[cn]at h1
  refine AW.sr envOk (fun N hN=>?_);simp-dsimp-implicitDefEqProofs (disch:=omega)only[go_sem,prs,prsP,ints,rows,cubes,vi];refine hN _ ?_;try clear hN N
  refine AW.ret ?_;simp-dsimp-implicitDefEqProofs (disch:=omega)only[go_sem];refine Vw.vi ?_
  rw[upd_same,ivs_zero,←inv_eq hg ha hg.e0 (M_ge (P:=pc os pw cj) (Nat.le_refl _) _ _)];rfl
 try simp only[cn]at h1
 simp at h1
theorem spec_l10From_ok (os:List Int) (pw:List (List Int)) (cj:List (List (List Int))) (h:presOk os pw cj):∀(i:Nat),i≤os.length→Con (pc os pw cj) i→∀a,T (pc os pw cj) i a→
    ACp Tryz.prog 136 [prs os pw cj,.i .i64 i,vi os.length a] (vi os.length (inv (pc os pw cj) i a)):=by
  have key:∀d i,i+d=os.length→Con (pc os pw cj) i→∀a,T (pc os pw cj) i a→
      ACp Tryz.prog 136 [prs os pw cj,.i .i64 i,vi os.length a] (vi os.length (inv (pc os pw cj) i a)):=by
    intro d
    induction d with
    |zero=>intro i hi _ a ha;obtain rfl:i=os.length:=hi;exact spec_l10From_end os pw cj h a ha
    | succ d ih=>
      intro i hi hc a ha
      refine spec_l10From_step os pw cj h i (by omega) hc (fun a ha=>?_) a ha
      have:=ih (i+1) (by omega) (hc.mono (by omega)) a ha
      rwa [Int.natCast_add]at this
  exact fun i hi=>key (os.length-i) i (by omega)
section
variable (os:List Int) (pw:List (List Int)) (cj:List (List (List Int)))
theorem spec_l10Inv_ok (h:presOk os pw cj) (hc:Con (pc os pw cj) 0) (a:V) (ha:T (pc os pw cj) 0 a):ACp Tryz.prog 103 [prs os pw cj,vi os.length a] (vi os.length (inv (pc os pw cj) 0 a)):=by
 refine ACp.intro' envOk Tryz.func103 rfl (by kernel_rfl) Tryz.ntmps103 Tryz.results103 (vi_nr _ _) (fun nx cX=>?_)
 refine AW.sr envOk (fun N hN=>?_);simp-dsimp-implicitDefEqProofs (disch:=omega)only[go_sem,prs];refine hN _ ?_;try clear hN N
 refine AW.freezeQ 2 nx _ rfl (upd_same _ _ _) ?_
 simp-dsimp-implicitDefEqProofs (disch:=omega)only[go_sem];refine AW.sr envOk (fun N hN=>?_);simp-dsimp-implicitDefEqProofs (disch:=omega)only[go_sem,prs];refine AC.pure (.of (spec_l10From_ok os pw cj h 0 (Nat.zero_le _) hc a ha)) ?_;try simp-dsimp-implicitDefEqProofs (disch:=omega)only[go_sem,prs]
 refine hN _ ?_;try clear hN N
 refine AW.ret ?_;simp-dsimp-implicitDefEqProofs (disch:=omega)only[go_sem];try rfl
theorem spec_l08Mul_ok (h:presOk os pw cj) (a b:V) (ha:T (pc os pw cj) 0 a) (hb:T (pc os pw cj) 0 b):ACp Tryz.prog 95 [prs os pw cj,vi os.length a,vi os.length b] (vi os.length (M (pc os pw cj) 0 a b)):=by
 refine ACp.intro' envOk Tryz.func95 rfl (by kernel_rfl) Tryz.ntmps95 Tryz.results95 (vi_nr _ _) (fun nx cX=>?_)
 refine AW.sr envOk (fun N hN=>?_);simp-dsimp-implicitDefEqProofs (disch:=omega)only[go_sem,prs];refine hN _ ?_;try clear hN N
 refine AW.freezeQ 3 nx _ rfl (upd_same _ _ _) ?_
 simp-dsimp-implicitDefEqProofs (disch:=omega)only[go_sem];refine AW.sr envOk (fun N hN=>?_);simp-dsimp-implicitDefEqProofs (disch:=omega)only[go_sem,prs];refine AC.pure (.of (spec_l08At_ok os pw cj h 0 (Nat.zero_le _) a b ha hb)) ?_;try simp-dsimp-implicitDefEqProofs (disch:=omega)only[go_sem,prs]
 refine hN _ ?_;try clear hN N
 refine AW.ret ?_;simp-dsimp-implicitDefEqProofs (disch:=omega)only[go_sem];try rfl
theorem spec_l10One_ok (hn:os.length≤1048576):ACp Tryz.prog 94 [prs os pw cj] (vi os.length z0):=by
 refine ACp.introV envOk Tryz.func94 rfl (by kernel_rfl) Tryz.ntmps94 Tryz.results94 ((vi_nr _ _)) (fun nx cX=>?_)
 refine AW.sr envOk (fun N hN=>?_);simp-dsimp-implicitDefEqProofs (disch:=omega)only[go_sem,prs,ints];refine hN _ ?_;try clear hN N
 refine AW.freezeQ 1 nx _ rfl (upd_same _ _ _) ?_
 simp-dsimp-implicitDefEqProofs (disch:=omega)only[go_sem];refine AW.sr envOk (fun N hN=>?_);simp-dsimp-implicitDefEqProofs (disch:=omega)only[go_sem,prs,ints];refine hN _ ?_;try clear hN N
 refine AW.ret ?_;simp-dsimp-implicitDefEqProofs (disch:=omega)only[go_sem];refine Vw.vi ?_
 rw[upd_same,ivs_zero];rfl
theorem spec_l10Element_ok (ho:os.length≤1048576) (hob:∀k,k<os.length→0≤os.getD k 0∧os.getD k 0≤1000) (a:List Int) (ha:a.length≤1048576):ACp Tryz.prog 87 [prs os pw cj,ints a] (.b (tf (exP os a))):=by
 refine ACp.intro' envOk Tryz.func87 rfl (by kernel_rfl) Tryz.ntmps87 Tryz.results87 (.b _) (fun nx cX=>?_)
 refine AW.sr envOk (fun N hN=>?_);simp-dsimp-implicitDefEqProofs (disch:=omega)only[go_sem,prs];refine hN _ ?_;try clear hN N
 refine AW.freezeQ 2 nx _ rfl (upd_same _ _ _) ?_
 simp-dsimp-implicitDefEqProofs (disch:=omega)only[go_sem];refine AW.sr envOk (fun N hN=>?_);simp-dsimp-implicitDefEqProofs (disch:=omega)only[go_sem,prs];refine AC.pure (.of (spec_l07Exponents_ok os a (-1) ho hob ha)) ?_;try simp-dsimp-implicitDefEqProofs (disch:=omega)only[go_sem,prs]
 refine hN _ ?_;try clear hN N
 refine AW.ret ?_;simp-dsimp-implicitDefEqProofs (disch:=omega)only[go_sem];exact bt (tf_eq xp_ex)
end
def exsP (os:List Int) (xs:List (List Int)):Prop:=∀k,k<xs.length→exP os (xs.getD k [])
theorem spec_l10Elements_ok (os:List Int) (pw:List (List Int)) (cj:List (List (List Int))) (ho:os.length≤1048576) (hob:∀k,k<os.length→0≤os.getD k 0∧os.getD k 0≤1000) (xs:List (List Int)) (hx:rowslen xs):ACp Tryz.prog 47 [prs os pw cj,rows xs] (.b (tf (exsP os xs))):=by
 have hxn:=hx.n
 refine ACp.intro' envOk Tryz.func47 rfl (by kernel_rfl) Tryz.ntmps47 Tryz.results47 (.b _) (fun nx cX=>?_)
 refine AW.sr envOk (fun N hN=>?_);simp-dsimp-implicitDefEqProofs (disch:=omega)only[go_sem,prs,prsP,rows,gd_r];refine hN _ ?_;try clear hN N
 refine AW.freezeQ 2 nx _ rfl (upd_same _ _ _) ?_
 simp-dsimp-implicitDefEqProofs (disch:=omega)only[go_sem];refine AW.seq (fun N1 hN1=>?_);refine AW.sr envOk (fun N hN=>?_);simp-dsimp-implicitDefEqProofs (disch:=omega)only[go_sem,prs,prsP,rows,gd_r];refine hN _ ?_;try clear hN N
 refine AW.block ?_;refine AW.loopN (α:=Nat) (fun x=>sl 19 [(1,rows xs),(2,prsP os pw cj),(5,.i .i64 x)]) (fun _=>noH) (fun x m=>x≤xs.length∧∀j,j<x→exP os (xs.getD j [])) (fun x=>xs.length-x) (0) ?_ ?_ (Le.del (by simp[noH])) ?_
 ·exact⟨by omega,by intro j hj;omega⟩
 ·simp(disch:=omega) [wks,wkA,sl,prsP,ints,rows,cubes]
 skip
 rintro k m ⟨hk,hI⟩
 simp-dsimp-implicitDefEqProofs (disch:=omega)only[go_sem];simp only[prsP];refine AW.seq (fun N2 hN2=>?_);refine AW.sr envOk (fun N hN=>?_);simp-dsimp-implicitDefEqProofs (disch:=omega)only[go_sem,prs,prsP,rows,gd_r];refine hN _ ?_;try clear hN N
 refine AW.cond rfl (fun h1=>?_) (fun h1=>?_)
 ·try simp only[cn]at h1
  have hxk:=hx.getD k
  refine AW.skip ?_;simp only[thn,blk];refine hN2 _ ?_;try clear hN2 N2
  refine AW.seq (fun N3 hN3=>?_);refine AW.block ?_;refine AW.seq (fun N hN=>?_);refine AW.drawL envOk (by kernel_rfl) 7 (by kernel_rfl) ?_
  simp-dsimp-implicitDefEqProofs (disch:=omega)only[hr_nil,hr_one,hr_if,List.take_succ_cons,List.take_zero,List.drop_succ_cons,List.drop_zero,List.take_nil,List.drop_nil,go_sem,undef,prs,prsP,rows,gd_r,w64];refine⟨_,.of (spec_l10Element_ok os pw cj ho hob (xs.getD k []) (by omega)),?_⟩
  try simp-dsimp-implicitDefEqProofs (disch:=omega)only[go_sem,prs,prsP,rows,gd_r]
  refine hN _ ?_;try clear hN N
  refine AW.cond rfl (fun h2=>?_) (fun h2=>?_)
  ·try simp only[cn]at h2
   refine AW.sr envOk (fun N hN=>?_);simp-dsimp-implicitDefEqProofs (disch:=omega)only[go_sem,prs,prsP,rows,gd_r];refine hN _ ?_;try clear hN N
   refine AW.ret ?_;simp-dsimp-implicitDefEqProofs (disch:=omega)only[go_sem];exact bt (tf_f (fun q=>h2 (q k (by omega)))).symm
  try simp only[cn]at h2
  refine AW.skip ?_;simp only[thn,blk];refine hN3 _ ?_;try clear hN3 N3
  refine AW.regionL envOk ?_;simp-dsimp-implicitDefEqProofs (disch:=omega)only[go_sem,prs,prsP,rows,gd_r];refine⟨k+1,?_,fun _ _ h=>h,?_,?_⟩
  ·simp(disch:=omega) [wks,wkA,sl,prsP,w64,ints,rows,cubes]<;>omega
  ·refine⟨by omega,fun j hj=>?_⟩
   by_cases e:j=k
   ·subst e;exact h2
   exact hI j (by omega)
  first|omega|(simp only;omega)
 try simp only[cn]at h1
 refine AW.exit ?_;simp only[thn,blk,if_true];refine hN1 _ ?_;try clear hN1 N1
 refine AW.sr envOk (fun N hN=>?_);simp-dsimp-implicitDefEqProofs (disch:=omega)only[go_sem,prs,prsP,rows,gd_r];refine hN _ ?_;try clear hN N
 refine AW.ret ?_;simp-dsimp-implicitDefEqProofs (disch:=omega)only[go_sem];exact bt (tf_t (fun j hj=>hI j (by omega))).symm
theorem impl_areElements_ok (os:List Int) (pw:List (List Int)) (cj:List (List (List Int))) (hl:prlen os pw cj) (xs:List (List Int)) (hx:rowslen xs):ACp Tryz.prog 42 [prsP os pw cj,rows xs] (.b (tf (grpP os pw cj∧exsP os xs))):=by
 have hxn:=hx.n
 have ho:=hl.o
 refine ACp.intro' envOk Tryz.func42 rfl (by kernel_rfl) Tryz.ntmps42 Tryz.results42 (.b _) (fun nx cX=>?_)
 refine AW.sr envOk (fun N hN=>?_);simp-dsimp-implicitDefEqProofs (disch:=omega)only[go_sem,prsP,rows,gd_r];refine hN _ ?_;try clear hN N
 refine AW.seq (fun N1 hN1=>?_);refine AW.sr envOk (fun N hN=>?_);simp-dsimp-implicitDefEqProofs (disch:=omega)only[go_sem,prsP,rows,gd_r];refine AC.pure (.of (impl_IsConsistent_ok os pw cj hl)) ?_;try simp-dsimp-implicitDefEqProofs (disch:=omega)only[go_sem,prsP,rows,gd_r]
 refine hN _ ?_;try clear hN N
 refine AW.cond rfl (fun h1=>?_) (fun h1=>?_)
 ·try simp only[cn]at h1
  refine AW.sr envOk (fun N hN=>?_);simp-dsimp-implicitDefEqProofs (disch:=omega)only[go_sem,prsP,rows,gd_r];refine hN _ ?_;try clear hN N
  refine AW.ret ?_;simp-dsimp-implicitDefEqProofs (disch:=omega)only[go_sem];exact bt (tf_f (fun q=>h1 q.1)).symm
 try simp only[cn]at h1
 have hob:=presOk.ob (pw:=pw) (cj:=cj) h1.1.2.1
 refine AW.skip ?_;simp only[thn,blk];refine hN1 _ ?_;try clear hN1 N1
 refine AW.seq (fun N2 hN2=>?_);refine AW.sr envOk (fun N hN=>?_);simp-dsimp-implicitDefEqProofs (disch:=omega)only[go_sem,prsP,rows,gd_r];refine hN _ ?_;try clear hN N
 refine AW.block ?_;refine AW.loopN (α:=Nat) (fun x=>sl 23 [(0,prsP os pw cj),(12,rows xs),(13,.i .i64 xs.length),(14,.i .i64 x)]) (fun _=>noH) (fun x m=>x≤xs.length∧∀j,j<x→exP os (xs.getD j [])) (fun x=>xs.length-x) (0) ?_ ?_ (fun _ _ h=>h) ?_
 ·exact⟨by omega,by intro j hj;omega⟩
 ·simp(disch:=omega) [wks,wkA,sl,prsP,ints,rows,cubes]
 skip
 rintro k m ⟨hk,hI⟩
 simp-dsimp-implicitDefEqProofs (disch:=omega)only[go_sem];simp only[prsP];refine AW.sr envOk (fun N hN=>?_);simp-dsimp-implicitDefEqProofs (disch:=omega)only[go_sem,prsP,rows,gd_r];refine hN _ ?_;try clear hN N
 refine AW.seq (fun N3 hN3=>?_);refine AW.cond rfl (fun h2=>?_) (fun h2=>?_)
 ·try simp only[cn]at h2
  have hxk:=hx.getD k
  refine AW.skip ?_;simp only[thn,blk];refine hN3 _ ?_;try clear hN3 N3
  refine AW.seq (fun N4 hN4=>?_);refine AW.block ?_;refine AW.sr envOk (fun N hN=>?_);simp-dsimp-implicitDefEqProofs (disch:=omega)only[go_sem,prsP,rows,gd_r];refine hN _ ?_;try clear hN N
  refine AW.sr envOk (fun N hN=>?_);simp-dsimp-implicitDefEqProofs (disch:=omega)only[go_sem,prsP,rows,gd_r];refine AC.pure (.of (impl_isExponents_ok os pw cj (xs.getD k []) ho hob (by omega))) ?_;try simp-dsimp-implicitDefEqProofs (disch:=omega)only[go_sem,prsP,rows,gd_r]
  refine hN _ ?_;try clear hN N
  refine AW.cond rfl (fun h3=>?_) (fun h3=>?_)
  ·try simp only[cn]at h3
   refine AW.sr envOk (fun N hN=>?_);simp-dsimp-implicitDefEqProofs (disch:=omega)only[go_sem,prsP,rows,gd_r];refine hN _ ?_;try clear hN N
   refine AW.ret ?_;simp-dsimp-implicitDefEqProofs (disch:=omega)only[go_sem];exact bt (tf_f (fun q=>h3 (q.2 k (by omega)))).symm
  try simp only[cn]at h3
  refine AW.skip ?_;simp only[thn,blk];refine hN4 _ ?_;try clear hN4 N4
  refine AW.regionL envOk ?_;simp-dsimp-implicitDefEqProofs (disch:=omega)only[go_sem,prsP,rows,gd_r];refine⟨k+1,?_,fun _ _ h=>h,?_,?_⟩
  ·simp(disch:=omega) [wks,wkA,sl,prsP,w64,ints,rows,cubes]<;>omega
  ·refine⟨by omega,fun j hj=>?_⟩
   by_cases e:j=k
   ·subst e;exact h3
   exact hI j (by omega)
  first|omega|(simp only;omega)
 try simp only[cn]at h2
 refine AW.exit ?_;simp only[thn,blk,if_true];refine hN2 _ ?_;try clear hN2 N2
 refine AW.sr envOk (fun N hN=>?_);simp-dsimp-implicitDefEqProofs (disch:=omega)only[go_sem,prsP,rows,gd_r];refine hN _ ?_;try clear hN N
 refine AW.ret ?_;simp-dsimp-implicitDefEqProofs (disch:=omega)only[go_sem];exact bt (tf_t ⟨h1,fun j hj=>hI j (by omega)⟩).symm
end Go.Proofs.YtghmeeifjeafmaaGreat
