import Derived.Test.YtghmeeifjeafmaaGreatZ20
set_option linter.unusedVariables false
set_option linter.unusedSimpArgs false
namespace Go.Proofs.YtghmeeifjeafmaaGreat
open Nat (reduceAdd reduceSub reduceGT reduceEqDiff reduceMul)
theorem Ow.vi_inv {H:HP} {r:AV} {n:Nat} {f:V} {ids:List Nat} (h:Ow H r (Go.Proofs.YtghmeeifjeafmaaGreat.vi n f) ids):(n=0∧(r= .nl∨r= .v 0 []))∨∃id,r= .h id 0 n∧id∈ids∧H id=some (Go.Proofs.YtghmeeifjeafmaaGreat.ivs n f):=by
  rw[←vi_ints]at h
  rcases h.ints_inv with ⟨h1,h2⟩|⟨id,h1,h2,h3⟩
  · refine .inl ⟨?_,h2⟩
    have:=congrArg List.length h1
    rw[vec_len]at this;simpa using this
  rw[vec_len]at h1 h3
  exact .inr ⟨id,h1,h2,by rw[h3,ivs_ext (fun k hk=>vec_get hk)]⟩
theorem ACo.vi {P:Program} {f:FuncId} {xs ts:List AV} {n:Nat} {g:V} (h:ACo P f ts (Go.Proofs.YtghmeeifjeafmaaGreat.vi n g)) {nx:Nat} {H:HP} (hv:Vws H xs ts):AC P f nx H xs (fun _ H' r=>r=Go.Proofs.YtghmeeifjeafmaaGreat.vi n g∧H=H'):=by
  have base:=AC.own (K:=fun nx' H' r=>∃ids,(∀i,i<nx→H' i=H i)∧Own nx nx' H' r (Go.Proofs.YtghmeeifjeafmaaGreat.vi n g) ids) h hv (fun nx' H' r ids _ h2 h3=>⟨ids,h2,h3⟩)
  refine⟨base.1,fun L Av w us hs hfr ha=>(base.2 L Av w us hs hfr ha).mono ?_⟩
  rintro e w' ⟨u,r,L',nx',H',h1,⟨ids,g1,g2,g3,g4⟩,h3,h4,h5,h6,h7,h8⟩
  have hno:∀i,nx≤i→H i=none:=fun i hi=>by
    cases hc:H i with
    |none=>rfl
    | some cs=>
      obtain⟨l,q1,_⟩:=hs.node i cs hc
      rw[hfr i hi]at q1;cases q1
  have hsub:∀i cs,H i=some cs→H' i=some cs:=fun i cs hi=>by
    have:i<nx:=by
      apply Classical.byContradiction;intro hn
      rw[hno i (by omega)]at hi;cases hi
    rw[g1 i this];exact hi
  have hz:FzH H' H:=fun i cs hi=>⟨cs,hsub i cs hi,rfl,fun k x y h1 h2=>by rw[h1]at h2;cases h2;exact .refl _⟩
  refine⟨u,_,L',nx',H,h1,⟨rfl,rfl⟩,h3,h4,h5,h6.sub hsub,⟨h7.le,h7.os,h7.tape,h7.output,h7.size,h7.keep,fun b hb hl=>h7.old b hb (LB_sub hsub hl)⟩,?_⟩
  rcases g2.vi_inv with ⟨rfl,rfl|rfl⟩|⟨id,rfl,hid,hc⟩
  · rw[h8.nl_inv];exact .v0 _ _
  · exact Fz.sound h6 hz (.refl _) h8
  refine Fz.sound h6 hz ?_ h8
  exact .h id 0 n _ _ hc (hno id (g4 id hid).1) (by rw[ivs_len];omega) ivs_len (fun k x y h1 h2=>by rw[Nat.zero_add,h2]at h1;cases h1;exact .refl _)
theorem clone_aco {n:Nat} (f:V) (hn:n≤1099511627776):ACo Tryz.prog 56 [vi n f] (vi n f):=by
  intro nx
  have:=slices_Clone_int64_int64_ok (vec n f) (by rw[vec_len];exact hn) nx noH
  rw[vi_ints,vec_len]at this
  refine this.mono ?_
  rintro nx' H' r (h|⟨rfl,rfl,rfl⟩)
  · obtain⟨ids,h2⟩:=h.own
    rw[vi_ints]at h2
    exact⟨ids,by unfold vi at h2 ⊢;rwa [ivs_ext (fun k hk=>vec_get hk)]at h2⟩
  exact⟨[],.leaf _ .v0 (.v _ _ (by simp)),by simp,by simp⟩
def TVok (os:List Int) (pw:List (List Int)) (cj:List (List (List Int))) (i:Nat):Prop:=∀(nx:Nat) (H:HP) (id:Nat) (e f:V),H id=some (ivs os.length e)→T (pc os pw cj) 0 e→T (pc os pw cj) i f→
  AC Tryz.prog 114 nx H [prsP os pw cj,.h id 0 os.length,vi os.length f] (fun _ H' _=>H'=upd H id (some (ivs os.length (app (pc os pw cj) i e f))))
def TGok (os:List Int) (pw:List (List Int)) (cj:List (List (List Int))) (j:Nat):Prop:=∀(nx:Nat) (H:HP) (id:Nat) (e:V),H id=some (ivs os.length e)→T (pc os pw cj) 0 e→
  AC Tryz.prog 142 nx H [prsP os pw cj,.h id 0 os.length,.i .i64 j] (fun _ H' _=>H'=upd H id (some (ivs os.length (app (pc os pw cj) j e (un j)))))
theorem Vw.sub {H:HP} {id n o m:Nat} {e:V} (h:H id=some (Go.Proofs.YtghmeeifjeafmaaGreat.ivs n e)) (hn:o+m=n):Vw H (.h id o m) (Go.Proofs.YtghmeeifjeafmaaGreat.vi m (fun k=>e (o+k))):=by
  refine .h id o m _ _ h (by rw[ivs_len];omega) ivs_len (fun k x y hx hy=>?_)
  have hk:k<m:=by
    have:=(List.getElem?_eq_some_iff.1 hy).1
    rwa [ivs_len]at this
  have h1:(Go.Proofs.YtghmeeifjeafmaaGreat.ivs n e)[o+k]? =some (.i .i64 (e (o+k))):=by simp[Go.Proofs.YtghmeeifjeafmaaGreat.ivs,show o+k<n by omega]
  have h2:(Go.Proofs.YtghmeeifjeafmaaGreat.ivs m (fun k=>e (o+k)))[k]? =some (.i .i64 (e (o+k))):=by simp[Go.Proofs.YtghmeeifjeafmaaGreat.ivs,hk]
  rw[h1]at hx;rw[h2]at hy
  cases hx;cases hy;exact .refl _
theorem cmb_at {j:Nat} {e t:V} {c:Int}:cmb j e c t j=c:=by rw[cmb,if_neg (by omega),if_pos rfl]
theorem fset_cmb {j:Nat} {e t:V} {c d:Int}:fset (cmb j e c t) j d=cmb j e d t:=by
  funext k;simp only[fset,cmb]
  by_cases h:k=j
  · subst h;rw[if_pos rfl,if_neg (by omega),if_pos rfl]
  rw[if_neg h,if_neg h]
  split<;>rfl
set_option maxHeartbeats 1000000 in
theorem impl_timesGenerator_ok (os:List Int) (pw:List (List Int)) (cj:List (List (List Int))) (h:presOk os pw cj) (j:Nat) (hj:j<os.length) (hg:Grp (T (pc os pw cj) (j+1)) (M (pc os pw cj) (j+1))) (hTV:TVok os pw cj (j+1)):TGok os pw cj j:=by
 intro nx H id e hH he
 have hv:=h.val
 have hn6:=h.1.1
 have hpl:=h.1.2.1
 have hcl:=h.1.2.2
 have hcl2:=(h.2.2.2 j hj).2.1
 have hsm:=T.small h he
 have hrj:=he.r j (by omega) hj
 have hoj:=h.o7 hj
 have hoj':(pc os pw cj).o j=os.getD j 0:=rfl
 have e3:AV.v (pw.getD j []).length (List.map (AV.i IntKind.i64) (pw.getD j []))=vi os.length ((pc os pw cj).pw j):=ints_vi (h.pwl hj)
 have tz:=T.zero hv (j+1)
 have tp:=hv.pw j hj
 refine AC.introx envOk Tryz.func142 rfl (by kernel_rfl) Tryz.ntmps142 Tryz.results142 (fun hfr cX=>?_)
 refine AW.sr envOk (fun N hN=>?_);simp-dsimp-implicitDefEqProofs (disch:=omega)only[go_sem,prsP,ints,rows,cubes,gd_i,gd_r,gd_c,vi,hH,cmb_at,fset_cmb];refine(ACo.vi (clone_aco (n:=(os.length-(j+1))) (fun t=>e (j+1+t)) (by omega)) (.cons (Vw.sub hH (by omega)) .nil)).mono ?_
 rintro _ H1 r1 ⟨rfl,rfl⟩
 try simp-dsimp-implicitDefEqProofs (disch:=omega)only[go_sem,prsP,ints,rows,cubes,gd_i,gd_r,gd_c,vi,hH,cmb_at,fset_cmb]
 refine hN _ ?_;try clear hN N
 refine AW.seq (fun N1 hN1=>?_);refine AW.sr envOk (fun N hN=>?_);simp-dsimp-implicitDefEqProofs (disch:=omega)only[go_sem,prsP,ints,rows,cubes,gd_i,gd_r,gd_c,vi,hH,cmb_at,fset_cmb];refine hN _ ?_;try clear hN N
 refine AW.block ?_;refine AW.loopN (α:=Nat) (fun x=>sl 83 [(0,prsP os pw cj),(1,.h id 0 os.length),(2,.i .i64 j),(6,vi (os.length-(j+1)) (fun t=>e (j+1+t))),(16,.i .i64 ((os.length-(j+1)):Nat)),(17,.i .i64 x)]) (fun x=>upd H id (some (ivs os.length (fun t=>if j<t∧t<j+1+x then 0 else e t)))) (fun x m=>x≤(os.length-(j+1))) (fun x=>(os.length-(j+1))-x) (0) ?_ ?_ (by rw[ivs_ext (g:=e) (fun t ht=>if_neg (by omega))];exact upd_le (fun i c _ h=>h) (fun d hd=>by cases hd;exact hH)) ?_
 ·omega
 ·simp(disch:=omega) [wks,wkA,sl,prsP,ints,rows,cubes,vi]
 skip
 rintro k m hk
 simp only[prsP,vi];simp-dsimp-implicitDefEqProofs (disch:=omega)only[go_sem];refine AW.sr envOk (fun N hN=>?_);simp-dsimp-implicitDefEqProofs (disch:=omega)only[go_sem,prsP,ints,rows,cubes,gd_i,gd_r,gd_c,vi,hH,cmb_at,fset_cmb];refine hN _ ?_;try clear hN N
 refine AW.seq (fun N2 hN2=>?_);refine AW.cond rfl (fun h1=>?_) (fun h1=>?_)
 ·try simp only[cn]at h1
  refine AW.skip ?_;simp only[thn,blk];refine hN2 _ ?_;try clear hN2 N2
  refine AW.seq (fun N3 hN3=>?_);refine AW.block ?_;refine AW.sr envOk (fun N hN=>?_);simp-dsimp-implicitDefEqProofs (disch:=omega)only[go_sem,prsP,ints,rows,cubes,gd_i,gd_r,gd_c,vi,hH,cmb_at,fset_cmb];refine hN _ ?_;try clear hN N
  refine AW.regionL envOk ?_;simp-dsimp-implicitDefEqProofs (disch:=omega)only[go_sem,prsP,ints,rows,cubes,gd_i,gd_r,gd_c,vi,hH,cmb_at,fset_cmb];refine hN3 _ ?_;try clear hN3 N3
  refine AW.regionL envOk ?_;simp-dsimp-implicitDefEqProofs (disch:=omega)only[go_sem,prsP,ints,rows,cubes,gd_i,gd_r,gd_c,vi,hH,cmb_at,fset_cmb];refine⟨k+1,?_,(by rw[ivs_ext (f:=fun t=>if j<t∧t<j+1+(k+1)then 0 else e t) (g:=fset (fun t=>if j<t∧t<j+1+k then 0 else e t) (j+1+k) 0) (fun t _=>by simp only[fset];split<;>split<;>first|rfl|omega|(split<;>first|rfl|omega))];exact fun _ _ h=>h),?_,?_⟩
  ·simp(disch:=omega) [wks,wkA,sl,prsP,w64,ints,rows,cubes,vi]<;>omega
  ·omega
  first|omega|(simp only;omega)
 try simp only[cn]at h1
 refine AW.exit ?_;simp only[thn,blk,if_true];refine hN1 _ ?_;try clear hN1 N1
 have hz:ivs os.length (fun t=>if j<t∧t<j+1+k then 0 else e t)=ivs os.length (cmb j e (e j) z0):=by
  refine ivs_ext (fun t ht=>?_)
  simp only[cmb,z0];by_cases q1:t<j
  ·rw[if_pos q1,if_neg (by omega)]
  by_cases q2:t=j
  ·subst q2;rw[if_neg (by omega),if_neg (by omega),if_pos rfl]
  rw[if_pos (by omega),if_neg q1,if_neg q2]
 rw[hz]
 refine AW.sr envOk (fun N hN=>?_);simp-dsimp-implicitDefEqProofs (disch:=omega)only[go_sem,prsP,ints,rows,cubes,gd_i,gd_r,gd_c,vi,hH,cmb_at,fset_cmb];refine hN _ ?_;try clear hN N
 refine AW.seq (fun N4 hN4=>?_);refine AW.seq (fun N hN=>?_);refine AW.drawL envOk (by kernel_rfl) 12 (by kernel_rfl) ?_
 simp-dsimp-implicitDefEqProofs (disch:=omega)only[hr_nil,hr_one,hr_if,List.take_succ_cons,List.take_zero,List.drop_succ_cons,List.drop_zero,List.take_nil,List.drop_nil,go_sem,undef,prsP,ints,rows,cubes,gd_i,gd_r,gd_c,w64,vi,hH,cmb_at,fset_cmb];refine hN _ ?_;try clear hN N
 refine AW.cond rfl (fun h2=>?_) (fun h2=>?_)
 ·try simp only[cn]at h2
  refine AW.sr envOk (fun N hN=>?_);simp-dsimp-implicitDefEqProofs (disch:=omega)only[go_sem,prsP,ints,rows,cubes,gd_i,gd_r,gd_c,vi,hH,cmb_at,fset_cmb];refine hN _ ?_;try clear hN N
  refine AW.regionL envOk ?_;simp-dsimp-implicitDefEqProofs (disch:=omega)only[go_sem,prsP,ints,rows,cubes,gd_i,gd_r,gd_c,vi,hH,cmb_at,fset_cmb];rw[e3]
  refine(hTV _ _ id (cmb j e 0 z0) ((pc os pw cj).pw j) (upd_same _ _ _) (cmb_T hv hj he (by omega) (by omega) tz) tp).mono ?_
  rintro _ H1 r1 rfl
  rw[cmb_app hv tz tp,hg.l1 tp]
  try simp-dsimp-implicitDefEqProofs (disch:=omega)only[go_sem,prsP,ints,rows,cubes,gd_i,gd_r,gd_c,vi,hH,cmb_at,fset_cmb]
  refine hN4 _ ?_;try clear hN4 N4
  refine AW.sr envOk (fun N hN=>?_);simp-dsimp-implicitDefEqProofs (disch:=omega)only[go_sem,prsP,ints,rows,cubes,gd_i,gd_r,gd_c,vi,hH,cmb_at,fset_cmb];refine hN _ ?_;try clear hN N
  refine AW.block ?_;refine AW.loopN (α:=Nat×V) (fun x=>sl 83 [(0,prsP os pw cj),(1,.h id 0 os.length),(2,.i .i64 j),(58,vi (os.length-(j+1)) (fun t=>e (j+1+t))),(59,.i .i64 ((os.length-(j+1)):Nat)),(60,.i .i64 x.1)]) (fun x=>upd H id (some (ivs os.length (cmb j e 0 x.2)))) (fun x m=>x.1≤(os.length-(j+1))∧T (pc os pw cj) (j+1) x.2∧fim (M (pc os pw cj) (j+1)) ((pc os pw cj).cj j) e ((os.length-(j+1))-x.1) (j+1+x.1) x.2=fim (M (pc os pw cj) (j+1)) ((pc os pw cj).cj j) e (os.length-(j+1)) (j+1) ((pc os pw cj).pw j)) (fun x=>(os.length-(j+1))-x.1) ((0,((pc os pw cj).pw j))) ?_ ?_ (fun _ _ h=>h) ?_
  ·exact⟨Nat.zero_le _,tp,rfl⟩
  ·simp(disch:=omega) [wks,wkA,sl,prsP,ints,rows,cubes,vi]
  skip
  rintro⟨q,t⟩ m ⟨hq,ht,hf⟩
  dsimp only at hq ht hf
  simp only[prsP,vi];simp-dsimp-implicitDefEqProofs (disch:=omega)only[go_sem];refine AW.sr envOk (fun N hN=>?_);simp-dsimp-implicitDefEqProofs (disch:=omega)only[go_sem,prsP,ints,rows,cubes,gd_i,gd_r,gd_c,vi,hH,cmb_at,fset_cmb];refine hN _ ?_;try clear hN N
  refine AW.seq (fun N5 hN5=>?_);refine AW.cond rfl (fun h3=>?_) (fun h3=>?_)
  ·try simp only[cn]at h3
   have hjq:j+1+q<os.length:=by omega
   have hsq:=hsm (j+1+q)
   refine AW.skip ?_;simp only[thn,blk];refine hN5 _ ?_;try clear hN5 N5
   refine AW.seq (fun N6 hN6=>?_);refine AW.block ?_;refine AW.sr envOk (fun N hN=>?_);simp-dsimp-implicitDefEqProofs (disch:=omega)only[go_sem,prsP,ints,rows,cubes,gd_i,gd_r,gd_c,vi,hH,cmb_at,fset_cmb];refine hN _ ?_;try clear hN N
   refine AW.sr envOk (fun N hN=>?_);simp-dsimp-implicitDefEqProofs (disch:=omega)only[go_sem,prsP,ints,rows,cubes,gd_i,gd_r,gd_c,vi,hH,cmb_at,fset_cmb];refine hN _ ?_;try clear hN N
   refine AW.block ?_;refine AW.loopN (α:=Nat×V) (fun x=>sl 83 [(0,prsP os pw cj),(1,.h id 0 os.length),(2,.i .i64 j),(8,.i .i64 q),(58,vi (os.length-(j+1)) (fun t=>e (j+1+t))),(59,.i .i64 ((os.length-(j+1)):Nat)),(60,.i .i64 q),(65,.i .i64 (e (j+1+q))),(66,.i .i64 x.1)]) (fun x=>upd H id (some (ivs os.length (cmb j e 0 x.2)))) (fun x m=>x.1≤(e (j+1+q)).toNat∧T (pc os pw cj) (j+1) x.2∧x.2=itr (fun u=>M (pc os pw cj) (j+1) u ((pc os pw cj).cj j (j+1+q))) x.1 t) (fun x=>(e (j+1+q)).toNat-x.1) ((0,t)) ?_ ?_ (fun _ _ h=>h) ?_
   ·exact⟨Nat.zero_le _,ht,rfl⟩
   ·simp(disch:=omega) [wks,wkA,sl,prsP,ints,rows,cubes,vi]
   skip
   rintro⟨y,w⟩ m2 ⟨hy,hw,he2⟩
   dsimp only at hy hw he2
   simp only[prsP,vi];simp-dsimp-implicitDefEqProofs (disch:=omega)only[go_sem];refine AW.sr envOk (fun N hN=>?_);simp-dsimp-implicitDefEqProofs (disch:=omega)only[go_sem,prsP,ints,rows,cubes,gd_i,gd_r,gd_c,vi,hH,cmb_at,fset_cmb];refine hN _ ?_;try clear hN N
   refine AW.seq (fun N7 hN7=>?_);refine AW.cond rfl (fun h4=>?_) (fun h4=>?_)
   ·try simp only[cn]at h4
    have e1:AV.v ((cj.getD j []).getD q []).length (List.map (AV.i IntKind.i64) ((cj.getD j []).getD q []))=vi os.length ((pc os pw cj).cj j (j+1+q)):=by
     have:=ints_vi (h.cjl (show j<j+1+q by omega) hjq)
     rw[show j+1+q-j-1=q by omega]at this
     refine this.trans ?_
     show vi _ (fl _)=vi _ (fl ((cj.getD j []).getD (j+1+q-j-1) []))
     rw[show j+1+q-j-1=q by omega]
    have tq:=hv.cj j (j+1+q) (by omega) hjq
    refine AW.skip ?_;simp only[thn,blk];refine hN7 _ ?_;try clear hN7 N7
    refine AW.seq (fun N8 hN8=>?_);refine AW.block ?_;refine AW.regionL envOk ?_;simp-dsimp-implicitDefEqProofs (disch:=omega)only[go_sem,prsP,ints,rows,cubes,gd_i,gd_r,gd_c,vi,hH,cmb_at,fset_cmb];rw[e1]
    refine(hTV _ _ id (cmb j e 0 w) ((pc os pw cj).cj j (j+1+q)) (upd_same _ _ _) (cmb_T hv hj he (by omega) (by omega) hw) tq).mono ?_
    rintro _ H1 r1 rfl
    rw[cmb_app hv hw tq]
    try simp-dsimp-implicitDefEqProofs (disch:=omega)only[go_sem,prsP,ints,rows,cubes,gd_i,gd_r,gd_c,vi,hH,cmb_at,fset_cmb]
    refine hN8 _ ?_;try clear hN8 N8
    refine AW.regionL envOk ?_;simp-dsimp-implicitDefEqProofs (disch:=omega)only[go_sem,prsP,ints,rows,cubes,gd_i,gd_r,gd_c,vi,hH,cmb_at,fset_cmb];refine⟨(y+1,M (pc os pw cj) (j+1) w ((pc os pw cj).cj j (j+1+q))),?_,fun _ _ h=>h,?_,?_⟩
    ·simp(disch:=omega) [wks,wkA,sl,prsP,w64,ints,rows,cubes,vi]<;>omega
    ·exact⟨by first|omega|(simp only;omega)|(dsimp only;omega),hg.cl hw tq,by rw[he2];rfl⟩
    first|omega|(simp only;omega)
   try simp only[cn]at h4
   refine AW.exit ?_;simp only[thn,blk,if_true];refine hN6 _ ?_;try clear hN6 N6
   refine AW.regionL envOk ?_;simp-dsimp-implicitDefEqProofs (disch:=omega)only[go_sem,prsP,ints,rows,cubes,gd_i,gd_r,gd_c,vi,hH,cmb_at,fset_cmb];refine⟨(q+1,w),?_,fun _ _ h=>h,?_,?_⟩
   ·simp(disch:=omega) [wks,wkA,sl,prsP,w64,ints,rows,cubes,vi]<;>omega
   ·refine⟨by first|omega|(simp only;omega)|(dsimp only;omega),hw,?_⟩
    show fim (M (pc os pw cj) (j+1)) ((pc os pw cj).cj j) e ((os.length-(j+1))-(q+1)) (j+1+(q+1)) w=_
    rw[←hf,he2,show(os.length-(j+1))-q=(os.length-(j+1))-(q+1)+1 by omega,fim,show y=(e (j+1+q)).toNat by omega]
    rfl
   first|omega|(simp only;omega)
  try simp only[cn]at h3
  refine AW.exit ?_;simp only[thn,blk,if_true];try simp-dsimp-implicitDefEqProofs (disch:=omega)only[go_sem,]
  have h9:(os.length-(j+1))-q=0:=by omega
  rw[h9]at hf
  have hf2:t=_:=hf
  refine⟨_,Le.refl _,?_⟩
  rw[tg_eq hv hj hg he]
  unfold tg0
  first
  |rw[if_pos (show e j+1=(pc os pw cj).o j from h2),hf2];rfl
  |rw[if_neg (show ¬e j+1=(pc os pw cj).o j from h2),hf2];rfl
 try simp only[cn]at h2
 refine AW.skip ?_;simp only[thn,blk];refine hN4 _ ?_;try clear hN4 N4
 refine AW.sr envOk (fun N hN=>?_);simp-dsimp-implicitDefEqProofs (disch:=omega)only[go_sem,prsP,ints,rows,cubes,gd_i,gd_r,gd_c,vi,hH,cmb_at,fset_cmb];refine hN _ ?_;try clear hN N
 refine AW.block ?_;refine AW.loopN (α:=Nat×V) (fun x=>sl 83 [(0,prsP os pw cj),(1,.h id 0 os.length),(2,.i .i64 j),(58,vi (os.length-(j+1)) (fun t=>e (j+1+t))),(59,.i .i64 ((os.length-(j+1)):Nat)),(60,.i .i64 x.1)]) (fun x=>upd H id (some (ivs os.length (cmb j e (e j+1) x.2)))) (fun x m=>x.1≤(os.length-(j+1))∧T (pc os pw cj) (j+1) x.2∧fim (M (pc os pw cj) (j+1)) ((pc os pw cj).cj j) e ((os.length-(j+1))-x.1) (j+1+x.1) x.2=fim (M (pc os pw cj) (j+1)) ((pc os pw cj).cj j) e (os.length-(j+1)) (j+1) z0) (fun x=>(os.length-(j+1))-x.1) ((0,z0)) ?_ ?_ (fun _ _ h=>h) ?_
 ·exact⟨Nat.zero_le _,tz,rfl⟩
 ·simp(disch:=omega) [wks,wkA,sl,prsP,ints,rows,cubes,vi]
 skip
 rintro⟨q,t⟩ m ⟨hq,ht,hf⟩
 dsimp only at hq ht hf
 simp only[prsP,vi];simp-dsimp-implicitDefEqProofs (disch:=omega)only[go_sem];refine AW.sr envOk (fun N hN=>?_);simp-dsimp-implicitDefEqProofs (disch:=omega)only[go_sem,prsP,ints,rows,cubes,gd_i,gd_r,gd_c,vi,hH,cmb_at,fset_cmb];refine hN _ ?_;try clear hN N
 refine AW.seq (fun N9 hN9=>?_);refine AW.cond rfl (fun h5=>?_) (fun h5=>?_)
 ·try simp only[cn]at h5
  have hjq:j+1+q<os.length:=by omega
  have hsq:=hsm (j+1+q)
  refine AW.skip ?_;simp only[thn,blk];refine hN9 _ ?_;try clear hN9 N9
  refine AW.seq (fun N10 hN10=>?_);refine AW.block ?_;refine AW.sr envOk (fun N hN=>?_);simp-dsimp-implicitDefEqProofs (disch:=omega)only[go_sem,prsP,ints,rows,cubes,gd_i,gd_r,gd_c,vi,hH,cmb_at,fset_cmb];refine hN _ ?_;try clear hN N
  refine AW.sr envOk (fun N hN=>?_);simp-dsimp-implicitDefEqProofs (disch:=omega)only[go_sem,prsP,ints,rows,cubes,gd_i,gd_r,gd_c,vi,hH,cmb_at,fset_cmb];refine hN _ ?_;try clear hN N
  refine AW.block ?_;refine AW.loopN (α:=Nat×V) (fun x=>sl 83 [(0,prsP os pw cj),(1,.h id 0 os.length),(2,.i .i64 j),(8,.i .i64 q),(58,vi (os.length-(j+1)) (fun t=>e (j+1+t))),(59,.i .i64 ((os.length-(j+1)):Nat)),(60,.i .i64 q),(65,.i .i64 (e (j+1+q))),(66,.i .i64 x.1)]) (fun x=>upd H id (some (ivs os.length (cmb j e (e j+1) x.2)))) (fun x m=>x.1≤(e (j+1+q)).toNat∧T (pc os pw cj) (j+1) x.2∧x.2=itr (fun u=>M (pc os pw cj) (j+1) u ((pc os pw cj).cj j (j+1+q))) x.1 t) (fun x=>(e (j+1+q)).toNat-x.1) ((0,t)) ?_ ?_ (fun _ _ h=>h) ?_
  ·exact⟨Nat.zero_le _,ht,rfl⟩
  ·simp(disch:=omega) [wks,wkA,sl,prsP,ints,rows,cubes,vi]
  skip
  rintro⟨y,w⟩ m2 ⟨hy,hw,he2⟩
  dsimp only at hy hw he2
  simp only[prsP,vi];simp-dsimp-implicitDefEqProofs (disch:=omega)only[go_sem];refine AW.sr envOk (fun N hN=>?_);simp-dsimp-implicitDefEqProofs (disch:=omega)only[go_sem,prsP,ints,rows,cubes,gd_i,gd_r,gd_c,vi,hH,cmb_at,fset_cmb];refine hN _ ?_;try clear hN N
  refine AW.seq (fun N11 hN11=>?_);refine AW.cond rfl (fun h6=>?_) (fun h6=>?_)
  ·try simp only[cn]at h6
   have e1:AV.v ((cj.getD j []).getD q []).length (List.map (AV.i IntKind.i64) ((cj.getD j []).getD q []))=vi os.length ((pc os pw cj).cj j (j+1+q)):=by
    have:=ints_vi (h.cjl (show j<j+1+q by omega) hjq)
    rw[show j+1+q-j-1=q by omega]at this
    refine this.trans ?_
    show vi _ (fl _)=vi _ (fl ((cj.getD j []).getD (j+1+q-j-1) []))
    rw[show j+1+q-j-1=q by omega]
   have tq:=hv.cj j (j+1+q) (by omega) hjq
   refine AW.skip ?_;simp only[thn,blk];refine hN11 _ ?_;try clear hN11 N11
   refine AW.seq (fun N12 hN12=>?_);refine AW.block ?_;refine AW.regionL envOk ?_;simp-dsimp-implicitDefEqProofs (disch:=omega)only[go_sem,prsP,ints,rows,cubes,gd_i,gd_r,gd_c,vi,hH,cmb_at,fset_cmb];rw[e1]
   refine(hTV _ _ id (cmb j e (e j+1) w) ((pc os pw cj).cj j (j+1+q)) (upd_same _ _ _) (cmb_T hv hj he (by omega) (by omega) hw) tq).mono ?_
   rintro _ H1 r1 rfl
   rw[cmb_app hv hw tq]
   try simp-dsimp-implicitDefEqProofs (disch:=omega)only[go_sem,prsP,ints,rows,cubes,gd_i,gd_r,gd_c,vi,hH,cmb_at,fset_cmb]
   refine hN12 _ ?_;try clear hN12 N12
   refine AW.regionL envOk ?_;simp-dsimp-implicitDefEqProofs (disch:=omega)only[go_sem,prsP,ints,rows,cubes,gd_i,gd_r,gd_c,vi,hH,cmb_at,fset_cmb];refine⟨(y+1,M (pc os pw cj) (j+1) w ((pc os pw cj).cj j (j+1+q))),?_,fun _ _ h=>h,?_,?_⟩
   ·simp(disch:=omega) [wks,wkA,sl,prsP,w64,ints,rows,cubes,vi]<;>omega
   ·exact⟨by first|omega|(simp only;omega)|(dsimp only;omega),hg.cl hw tq,by rw[he2];rfl⟩
   first|omega|(simp only;omega)
  try simp only[cn]at h6
  refine AW.exit ?_;simp only[thn,blk,if_true];refine hN10 _ ?_;try clear hN10 N10
  refine AW.regionL envOk ?_;simp-dsimp-implicitDefEqProofs (disch:=omega)only[go_sem,prsP,ints,rows,cubes,gd_i,gd_r,gd_c,vi,hH,cmb_at,fset_cmb];refine⟨(q+1,w),?_,fun _ _ h=>h,?_,?_⟩
  ·simp(disch:=omega) [wks,wkA,sl,prsP,w64,ints,rows,cubes,vi]<;>omega
  ·refine⟨by first|omega|(simp only;omega)|(dsimp only;omega),hw,?_⟩
   show fim (M (pc os pw cj) (j+1)) ((pc os pw cj).cj j) e ((os.length-(j+1))-(q+1)) (j+1+(q+1)) w=_
   rw[←hf,he2,show(os.length-(j+1))-q=(os.length-(j+1))-(q+1)+1 by omega,fim,show y=(e (j+1+q)).toNat by omega]
   rfl
  first|omega|(simp only;omega)
 try simp only[cn]at h5
 refine AW.exit ?_;simp only[thn,blk,if_true];try simp-dsimp-implicitDefEqProofs (disch:=omega)only[go_sem,]
 have h9:(os.length-(j+1))-q=0:=by omega
 rw[h9]at hf
 have hf2:t=_:=hf
 refine⟨_,Le.refl _,?_⟩
 rw[tg_eq hv hj hg he]
 unfold tg0
 first
 |rw[if_pos (show e j+1=(pc os pw cj).o j from h2),hf2];rfl
 |rw[if_neg (show ¬e j+1=(pc os pw cj).o j from h2),hf2];rfl
theorem tl_zero {f:V}:tl 0 f=f:=by funext k;simp[tl]
theorem tl_end {n:Nat} {f:V} (h:∀k,n≤k→f k=0):tl n f=z0:=by
  funext k;simp only[tl,z0];split
  · rfl
  exact h k (by omega)
theorem tl_set {k:Nat} {f:V} {a:Int}:fset (tl k f) k a=fset (tl (k+1) f) k a:=by
  funext t;simp only[fset,tl]
  by_cases e:t=k
  · rw[if_pos e,if_pos e]
  rw[if_neg e,if_neg e]
  by_cases e2:t<k
  · rw[if_pos e2,if_pos (by omega)]
  rw[if_neg e2,if_neg (by omega)]
theorem tl_self {k:Nat} {f:V}:fset (tl k f) k (f k)=tl k f:=by
  funext t;simp only[fset,tl];split
  · rename_i e;subst e;rw[if_neg (by omega)]
  rfl
theorem tl_next {k:Nat} {f:V}:fset (tl k f) k 0=tl (k+1) f:=by
  rw[tl_set];exact fset_id (by simp[tl])
section
variable {P:Pc}
theorem T.tail (hv:Val P) {i:Nat} {f:V} (h:T P i f) (k:Nat):T P k (tl k f):=
  ⟨fun t ht=>by simp[tl,ht],fun t h1 h2=>by
    rw[tl,if_neg (by omega)]
    by_cases e:t<i
    · rw[h.z t e];have:=hv.o t h2;omega
    · exact h.r t (by omega) h2,fun t ht=>by
    rw[tl];split
    · rfl
    exact h.t t ht⟩
theorem app_step (hv:Val P) {i k:Nat} (hik:i≤k) (hk:k<P.n) (hg:Grp (T P i) (M P i)) (hg2:Grp (T P (k+1)) (M P (k+1))) {e f:V} (he:T P 0 e) (hf:T P i f) {a:Int} (h0:0≤a) (h1:a+1<P.o k):
    app P i (app P k e (un k)) (fset (tl k f) k a)=app P i e (fset (tl k f) k (a+1)):=by
  have tu:=un_T hv (Nat.le_refl k) hk
  have t1:T P (k+1) (tl (k+1) f):=hf.tail hv (k+1)
  have t2:T P k (fset (tl (k+1) f) k a):=T.put hk t1 h0 (by omega)
  rw[tl_set,tl_set,←app_eq hv hik he tu,app_app hv hg he (tu.mono hv hik) (t2.mono hv hik),M_sub hv hik tu t2,un_mul hv hk hg2 t1 h0 h1]
end
set_option maxHeartbeats 1000000 in
theorem impl_timesVector_ok (os:List Int) (pw:List (List Int)) (cj:List (List (List Int))) (h:presOk os pw cj) (i:Nat) (hc:Con (pc os pw cj) i) (hTG:∀k,i≤k→k<os.length→TGok os pw cj k):TVok os pw cj i:=by
 intro nx H id e f hH he hf
 have hv:=h.val
 have hn6:=h.1.1
 have hg:=con_grp hv hc
 have hsm:=T.small h hf
 have hnn:(pc os pw cj).n=os.length:=rfl
 refine AC.introx envOk Tryz.func114 rfl (by kernel_rfl) Tryz.ntmps114 Tryz.results114 (fun hfr cX=>?_)
 refine AW.sr envOk (fun N hN=>?_);simp-dsimp-implicitDefEqProofs (disch:=omega)only[go_sem,prsP,ints,rows,cubes,vi];refine hN _ ?_;try clear hN N
 refine AW.block ?_;refine AW.loopN (α:=Nat×V) (fun x=>sl 24 [(0,prsP os pw cj),(1,.h id 0 os.length),(8,vi os.length f),(9,.i .i64 os.length),(10,.i .i64 x.1)]) (fun x=>upd H id (some (ivs os.length x.2))) (fun x m=>x.1≤os.length∧T (pc os pw cj) 0 x.2∧app (pc os pw cj) i x.2 (tl x.1 f)=app (pc os pw cj) i e f) (fun x=>os.length-x.1) ((0,e)) ?_ ?_ (by exact upd_le (fun i c _ h=>h) (fun d hd=>by cases hd;exact hH)) ?_
 ·exact⟨Nat.zero_le _,he,by rw[tl_zero]⟩
 ·simp(disch:=omega) [wks,wkA,sl,prsP,ints,rows,cubes,vi]
 skip
 rintro⟨k,e1⟩ m ⟨hk,he1,hf1⟩
 dsimp only at hk he1 hf1
 simp only[prsP,vi];simp-dsimp-implicitDefEqProofs (disch:=omega)only[go_sem];refine AW.sr envOk (fun N hN=>?_);simp-dsimp-implicitDefEqProofs (disch:=omega)only[go_sem,prsP,ints,rows,cubes,vi];refine hN _ ?_;try clear hN N
 refine AW.seq (fun N1 hN1=>?_);refine AW.cond rfl (fun h1=>?_) (fun h1=>?_)
 ·try simp only[cn]at h1
  have hsk:=hsm k
  refine AW.skip ?_;simp only[thn,blk];refine hN1 _ ?_;try clear hN1 N1
  refine AW.seq (fun N2 hN2=>?_);refine AW.block ?_;refine AW.sr envOk (fun N hN=>?_);simp-dsimp-implicitDefEqProofs (disch:=omega)only[go_sem,prsP,ints,rows,cubes,vi];refine hN _ ?_;try clear hN N
  refine AW.sr envOk (fun N hN=>?_);simp-dsimp-implicitDefEqProofs (disch:=omega)only[go_sem,prsP,ints,rows,cubes,vi];refine hN _ ?_;try clear hN N
  refine AW.block ?_;refine AW.loopN (α:=Nat×V) (fun x=>sl 24 [(0,prsP os pw cj),(1,.h id 0 os.length),(6,.i .i64 k),(8,vi os.length f),(9,.i .i64 os.length),(10,.i .i64 k),(15,.i .i64 (f k)),(16,.i .i64 x.1)]) (fun x=>upd H id (some (ivs os.length x.2))) (fun x m=>x.1≤(f k).toNat∧T (pc os pw cj) 0 x.2∧app (pc os pw cj) i x.2 (fset (tl k f) k (f k-x.1))=app (pc os pw cj) i e f) (fun x=>(f k).toNat-x.1) ((0,e1)) ?_ ?_ (fun _ _ h=>h) ?_
  ·exact⟨Nat.zero_le _,he1,by dsimp only;rw[show f k-((0:Nat):Int)=f k by omega,tl_self];exact hf1⟩
  ·simp(disch:=omega) [wks,wkA,sl,prsP,ints,rows,cubes,vi]
  skip
  rintro⟨q,e2⟩ m2 ⟨hq,he2,hf2⟩
  dsimp only at hq he2 hf2
  simp only[prsP,vi];simp-dsimp-implicitDefEqProofs (disch:=omega)only[go_sem];refine AW.sr envOk (fun N hN=>?_);simp-dsimp-implicitDefEqProofs (disch:=omega)only[go_sem,prsP,ints,rows,cubes,vi];refine hN _ ?_;try clear hN N
  refine AW.seq (fun N3 hN3=>?_);refine AW.cond rfl (fun h2=>?_) (fun h2=>?_)
  ·try simp only[cn]at h2
   have hik:i≤k:=by
    apply Classical.byContradiction;intro hn
    have:=hf.z k (by omega)
    omega
   have hrk:=hf.r k hik (by omega)
   refine AW.skip ?_;simp only[thn,blk];refine hN3 _ ?_;try clear hN3 N3
   refine AW.seq (fun N4 hN4=>?_);refine AW.block ?_;refine AW.regionL envOk ?_;simp-dsimp-implicitDefEqProofs (disch:=omega)only[go_sem,prsP,ints,rows,cubes,vi];refine(hTG k hik (by omega) _ _ id e2 (upd_same _ _ _) he2).mono ?_
   rintro _ H1 r1 rfl
   try simp-dsimp-implicitDefEqProofs (disch:=omega)only[go_sem,prsP,ints,rows,cubes,vi]
   refine hN4 _ ?_;try clear hN4 N4
   refine AW.regionL envOk ?_;simp-dsimp-implicitDefEqProofs (disch:=omega)only[go_sem,prsP,ints,rows,cubes,vi];refine⟨(q+1,app (pc os pw cj) k e2 (un k)),?_,fun _ _ h=>h,?_,?_⟩
   ·simp(disch:=omega) [wks,wkA,sl,prsP,w64,ints,rows,cubes,vi]<;>omega
   ·refine⟨by first|omega|(simp only;omega)|(dsimp only;omega),app_T hv he2 (un_T hv (Nat.le_refl k) (by omega)),?_⟩
    dsimp only
    rw[app_step hv hik (by omega) hg (con_grp hv (hc.mono (by omega))) he2 hf (by omega) (by omega),show f k-((q+1:Nat):Int)+1=f k-q by omega]
    exact hf2
   first|omega|(simp only;omega)
  try simp only[cn]at h2
  refine AW.exit ?_;simp only[thn,blk,if_true];refine hN2 _ ?_;try clear hN2 N2
  refine AW.regionL envOk ?_;simp-dsimp-implicitDefEqProofs (disch:=omega)only[go_sem,prsP,ints,rows,cubes,vi];refine⟨(k+1,e2),?_,fun _ _ h=>h,?_,?_⟩
  ·simp(disch:=omega) [wks,wkA,sl,prsP,w64,ints,rows,cubes,vi]<;>omega
  ·refine⟨by first|omega|(simp only;omega)|(dsimp only;omega),he2,?_⟩
   dsimp only
   rw[←tl_next,←hf2,show f k-(q:Int)=0 by omega]
  first|omega|(simp only;omega)
 try simp only[cn]at h1
 refine AW.exit ?_;simp only[thn,blk,if_true];try simp-dsimp-implicitDefEqProofs (disch:=omega)only[go_sem,]
 obtain rfl:k=os.length:=by omega
 rw[tl_end (n:=os.length) (fun t ht=>hf.t t ht),app_z0 hv hg he1]at hf1
 exact⟨_,Le.refl _,by rw[hf1]⟩
theorem times_ok (os:List Int) (pw:List (List Int)) (cj:List (List (List Int))) (h:presOk os pw cj):∀i,Con (pc os pw cj) i→TVok os pw cj i∧∀j,i≤j→j<os.length→TGok os pw cj j:=by
  have hv:=h.val
  have key:∀d i,os.length-i=d→Con (pc os pw cj) i→TVok os pw cj i∧∀j,i≤j→j<os.length→TGok os pw cj j:=by
    intro d
    induction d with
    | zero=>
      intro i hd hc
      have hG:∀j,i≤j→j<os.length→TGok os pw cj j:=fun j h1 h2=>by omega
      exact⟨impl_timesVector_ok os pw cj h i hc hG,hG⟩
    | succ d ih=>
      intro i hd hc
      have h1:=ih (i+1) (by omega) (hc.mono (by omega))
      have hG:∀j,i≤j→j<os.length→TGok os pw cj j:=fun j h2 h3=>by
        by_cases e:j=i
        · subst e;exact impl_timesGenerator_ok os pw cj h j h3 (con_grp hv (hc.mono (by omega))) h1.1
        exact h1.2 j (by omega) h3
      exact⟨impl_timesVector_ok os pw cj h i hc hG,hG⟩
  exact fun i hc=>key _ i rfl hc
end Go.Proofs.YtghmeeifjeafmaaGreat
