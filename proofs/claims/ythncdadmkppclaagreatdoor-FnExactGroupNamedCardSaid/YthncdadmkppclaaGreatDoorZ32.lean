import Derived.Test.YthncdadmkppclaaGreatDoorZ31
set_option linter.unusedVariables false
set_option linter.unusedSimpArgs false
namespace Go.Proofs.YthncdadmkppclaaGreatDoor
open Nat (reduceAdd reduceSub reduceGT reduceEqDiff reduceMul)
theorem ACp.introF {P:Program} {Γ:TEnv} (hG:GOk P Γ) {f:FuncId} {fn:Func} {c:Code} {n:Nat} {rs:Array ResultVar} (hf:P.funcs[f]? =some fn) (hb:fn.body=some c) (hn:(fn.name== "runtime.NumGoroutine")=false) (hnt:fn.ntmps=n) (hres:fn.results=rs) {xs:List AV} {r:AV} (hr:NR r)
    (h:∀nx (cX:Ctx),cX.rd=none→cX.rf=true→AW cX P c ⟨xs++List.replicate (n-xs.length) .j,noH,nx⟩ (finK Γ rs.toList fun _ H' r'=>Vw H' r' r)):ACp P f xs r:=by
  refine⟨⟨fn,hf,by rw[hb];rfl,hn⟩,?_⟩
  rintro L M w us hM ⟨nx,hfr⟩ ha
  refine((AC.introF hG hf hb hn rfl (by rw[hnt,hres];exact h nx)).2 L M w us (SR_noH hM) hfr (by rw[MM_noH];exact ha)).mono ?_
  rintro e w' ⟨u,r',L',nx',H',g1,g0,g2,g3,g4,g5,g6,g7⟩
  refine⟨u,g1,⟨fun _ _ h=>h,g6.os,g6.tape,g6.output,g6.size,g6.keep,fun b _ hb=>absurd hb LB_noH⟩,(g0.sound g5 g7).nr hr⟩
theorem AC.arg0 {P:Program} {f:FuncId} {nx:Nat} {H:HP} {xs:List AV} {T T':ByteArray} {Q:Nat→HP→AV→Prop} (h:T=T') (ha:AC P f nx H (.s T'::xs) Q):AC P f nx H (.s T::xs) Q:=by subst h;exact ha
noncomputable def Gm (nb bp bv:Nat):Nat×Nat→HP
  |(0,_)=>upd (upd (upd noH nb (some [.nl])) bp (some [.s ⟨#[10]⟩])) bv (some [.i .i64 0])
  |(k+1,id)=>upd (upd (upd (upd noH nb (some [.hs 4 id 0 (k+1)])) bp (some [.s ⟨#[10]⟩])) bv (some [.i .i64 0])) id (some (gcells (k+1)))
def Im (nb bp bs bv:Nat) (k:Nat) (j:Nat×Nat) (m:Nat):Prop:=
  j.1=k∧nb<m∧bp<m∧bs<m∧bv<m∧(0<k→j.2<m∧j.2≠nb∧j.2≠bp∧j.2≠bs∧j.2≠bv)
noncomputable def libV:AV:= .v 82 (gcells 82)
theorem gcells_nr:∀(n k:Nat) (x:AV),(gcells n)[k]? =some x→NR x:=by
  intro n
  induction n with
  |zero=>intro k x h;simp[gcells]at h
  | succ n ih=>
    intro k x h
    rw[gcells,List.getElem?_append]at h
    split at h
    · exact ih _ _ h
    · have:=List.mem_of_getElem? h
      simp only[gcell,List.mem_cons,List.not_mem_nil,or_false]at this
      rcases this with rfl|rfl|rfl|rfl
      · exact .i _ _
      · exact .i _ _
      · exact .s _
      · exact .s _
theorem libV_nr:NR libV:= .v _ _ (gcells_nr 82)
theorem im_mono {nb bp bs bv:Nat} (k:Nat) (j:Nat×Nat) (m m':Nat) (h:Im nb bp bs bv k j m) (hm:m≤m'):Im nb bp bs bv k j m':=
  ⟨h.1,by have:=h.2.1;omega,by have:=h.2.2.1;omega,by have:=h.2.2.2.1;omega,by have:=h.2.2.2.2.1;omega,fun hk=>⟨by have:=(h.2.2.2.2.2 hk).1;omega,(h.2.2.2.2.2 hk).2⟩⟩
theorem gm_get {nb bp bs bv:Nat} (hpv:bp≠bv) (k:Nat) (j:Nat×Nat) (m:Nat) (h:Im nb bp bs bv k j m):Gm nb bp bv j bp=some [.s ⟨#[10]⟩]∧Gm nb bp bv j bv=some [.i .i64 0]:=by
  obtain⟨j,id⟩:=j
  obtain⟨hj,_,_,_,_,h5⟩:=h
  simp only at hj h5
  cases j with
  |zero=>simp only[Gm,upd];simp[hpv]
  | succ j=>
    have:=h5 (by omega)
    simp only[Gm,upd]
    have e1:bp≠id:=fun h=>this.2.2.1 h.symm
    have e2:bv≠id:=fun h=>this.2.2.2.2 h.symm
    simp[hpv,e1,e2]
theorem itn1:Int.toNat 1=1:=rfl
theorem itn2:Int.toNat 2=2:=rfl
theorem one4 (a b:Int) (x y:ByteArray):∀z,z∈ [AV.i .i64 a,.i .i64 b,.s x,.s y]→one z=true:=by
  intro z hz
  simp only[List.mem_cons,List.not_mem_nil,or_false]at hz
  rcases hz with rfl|rfl|rfl|rfl<;>rfl
theorem gm_le {nb bp bv bs k newid:Nat} {r:ByteArray} {H:HP} (h1:H nb=some [.hs 4 newid 0 (k+1)]) (h2:H bp=some [.s ⟨#[10]⟩]) (h3:H bv=some [.i .i64 0]) (h4:H bs=some [.s r]) (h5:H newid=some (gcells (k+1))):∀i cs,upd (Gm nb bp bv (k+1,newid)) bs (some [.s r]) i=some cs→H i=some cs:=by
  intro i cs hd
  simp only[Gm,upd]at hd
  split at hd
  · rename_i e;subst e;rw[h4];exact hd
  split at hd
  · rename_i e;subst e;rw[h5];exact hd
  split at hd
  · rename_i e;subst e;rw[h3];exact hd
  split at hd
  · rename_i e;subst e;rw[h2];exact hd
  split at hd
  · rename_i e;subst e;rw[h1];exact hd
  · cases hd
theorem gcells_getD {n k i:Nat} (hk:k<n) (hi:i<4):(gcells n).getD (k*4+i) .j=(gcell k).getD i .j:=by
  rw[List.getD_eq_getElem?_getD,List.getD_eq_getElem?_getD,gcells_get hk hi]
theorem Gm_s {nb bp bv id:Nat} (k:Nat):Gm nb bp bv (k+1,id)=upd (upd (upd (upd noH nb (some [.hs 4 id 0 (k+1)])) bp (some [.s ⟨#[10]⟩])) bv (some [.i .i64 0])) id (some (gcells (k+1))):=rfl
theorem vw_hsat {H:HP} {id n s:Nat} {cs:List AV} (hH:H id=some cs) (hn:cs.length=n*s):Vw H (.hs s id 0 n) (.v n cs):=
  .hs s id 0 n cs cs hH (by omega) hn fun k x y hx hy=>by rw[Nat.zero_add]at hx;rw[hx]at hy;cases hy;exact .refl _
theorem split_line {r:Row} (h:r∈tbl):ACp Tryz.prog 41 [.s (ofL (lineL r)),.s ⟨#[124]⟩] (.v 3 [.s (ofL (ordT r.1)),.s r.2.1,.s r.2.2]):=by
  have:=strings_Split_ok (ofL (lineL r)) 124 (line_sz h)
  rwa [line_spw h]at this
set_option maxHeartbeats 2000000 in theorem impl_libraryGroups_ok:ACp Tryz.prog 26 [] libV:=by
 refine ACp.introF envOk Tryz.func26 rfl (by kernel_rfl) Tryz.ntmps26 Tryz.results26 (libV_nr) (fun nx cX hrd hrf=> ?_)
 refine AW.sr envOk (fun N hN=> ?_)
 simp-dsimp-implicitDefEqProofs (disch:=omega) only[go_sem,undef,itn1,itn2,Gm]
 refine hN _ ?_
 try clear hN N
 refine AW.sr envOk (fun N hN=> ?_)
 simp-dsimp-implicitDefEqProofs (disch:=omega) only[go_sem,undef,itn1,itn2,Gm]
 refine hN _ ?_
 try clear hN N
 refine AW.seq (fun N1 hN1=> ?_)
 refine AW.sr envOk (fun N hN=> ?_)
 simp-dsimp-implicitDefEqProofs (disch:=omega) only[go_sem,undef,itn1,itn2,Gm]
 refine AC.arg0 (T':=gText) (by kernel_rfl) ?_
 refine(strings_SplitSeq_fr gText 10 _ _).mono ?_
 rintro nx1 H1 r ⟨bp,bs,bv,rfl,h1,h2,h3,h4,h5,h6,h7,h8,h9,rfl⟩
 try simp-dsimp-implicitDefEqProofs (disch:=omega) only[go_sem,undef,itn1,itn2,Gm]
 refine hN _ ?_
 try clear hN N
 refine AW.block ?_
 refine AW.rangeFunc envOk hrd hrf rfl Tryz.func82 rfl (by kernel_rfl) rfl (fun cY l rec hps has hbd bg=> ?_)
 refine it_split (σ:=Nat×Nat) Tryz.func82 rfl bg hps 10 gText gText_sz (Gm (nx+1) bp bv) (Im (nx+1) bp bs bv) (j0:=(0,0)) rfl im_mono h7 h8 (gm_get h9) ?_ ⟨rfl,by first|omega|(simp only;omega)|(dsimp only;omega),by first|omega|(simp only;omega)|(dsimp only;omega),by first|omega|(simp only;omega)|(dsimp only;omega),by first|omega|(simp only;omega)|(dsimp only;omega),fun h=>absurd h (by decide)⟩ ?_
 rintro k ⟨j,id⟩ m x hx ⟨hj,i1,i2,i3,i4,i5⟩ r cZ
 simp only at hj i5
 subst hj
 obtain⟨hk,rfl⟩:=line_get hx
 have hmem:=trow_mem hk
 rw[has]
 rcases j with _|j
 ·skip
  refine AW.regionL envOk ?_
  simp-dsimp-implicitDefEqProofs (disch:=omega) only[go_sem,undef,itn1,itn2,Gm]
  intro cZ'
  rw[hbd]
  refine AW.block ?_
  refine AW.sr envOk (fun N hN=> ?_)
  simp-dsimp-implicitDefEqProofs (disch:=omega) only[go_sem,undef,itn1,itn2,Gm]
  refine AC.pure (.of (split_line hmem)) ?_
  try simp-dsimp-implicitDefEqProofs (disch:=omega) only[go_sem,undef,itn1,itn2,Gm]
  refine hN _ ?_
  try clear hN N
  refine AW.sr envOk (fun N hN=> ?_)
  simp-dsimp-implicitDefEqProofs (disch:=omega) only[go_sem,undef,itn1,itn2,Gm]
  refine AC.pure (.of (strconv_ParseInt_o (ord_sz hmem) (line_ord hmem))) ?_
  try simp-dsimp-implicitDefEqProofs (disch:=omega) only[go_sem,undef,itn1,itn2,Gm]
  refine hN _ ?_
  try clear hN N
  refine AW.seq (fun N hN=> ?_)
  refine AW.drawL envOk (by kernel_rfl) 9 (by kernel_rfl) ?_
  simp-dsimp-implicitDefEqProofs (disch:=omega) only[hr_nil,hr_one,hr_if,List.take_succ_cons,List.take_zero,List.drop_succ_cons,List.drop_zero,List.take_nil,List.drop_nil,go_sem,undef,itn1,itn2,Gm]
  refine hN _ ?_
  try clear hN N
  refine AW.seq (fun N2 hN2=> ?_)
  refine AW.sr envOk (fun N hN=> ?_)
  simp-dsimp-implicitDefEqProofs (disch:=omega) only[go_sem,undef,itn1,itn2,Gm]
  refine hN _ ?_
  try clear hN N
  refine AW.sr envOk (fun N hN=> ?_)
  simp-dsimp-implicitDefEqProofs (disch:=omega) only[go_sem,undef,itn1,itn2,Gm]
  refine gopB.mk' (fun h1=> ?_) (fun h1=> ?_)
  ·try simp only[cn]at h1
   omega
  ·try simp only[cn]at h1
   try simp-dsimp-implicitDefEqProofs (disch:=omega) only[go_sem,undef,itn1,itn2,Gm]
   refine hN _ ?_
   try clear hN N
   refine AW.condF rfl ?_
   refine AW.skip ?_
   simp only[thn,blk]
   refine hN2 _ ?_
   try clear hN2 N2
   refine AW.regionL envOk ?_
   simp-dsimp-implicitDefEqProofs (disch:=omega) only[go_sem,undef,itn1,itn2,Gm]
   refine⟨rfl,one4 _ _ _ _,(1,m+1+3+9+10+3+12+3),⟨rfl,by omega,by omega,by omega,by omega,fun _=>⟨by simp only;omega,by simp only;omega,by simp only;omega,by simp only;omega,by simp only;omega⟩⟩,?_⟩
   exact gm_le (by simp(disch:=omega) only[upd_same,upd_ne]) (by simp(disch:=omega) only[upd_same,upd_ne]) (by simp(disch:=omega) only[upd_same,upd_ne]) (by simp(disch:=omega) only[upd_same,upd_ne]) (by simp(disch:=omega) only[upd_same,upd_ne];try rfl)
 ·skip
  obtain⟨i6,i7,i8,i9,i10⟩:=i5 (by omega)
  have ew:IntKind.i64.wrap (((j+1:Nat):Int)-1)=(j:Int):=by rw[w64 (by omega) (by omega)];omega
  have eg0:=gcells_getD (n:=j+1) (k:=j) (i:=0) (by omega) (by omega)
  have eg1:=gcells_getD (n:=j+1) (k:=j) (i:=1) (by omega) (by omega)
  have el:=gcells_len (j+1)
  have hnum:=num_le j
  simp only[gcell,List.getD_cons_zero,List.getD_cons_succ,Nat.add_zero]at eg0 eg1
  refine AW.regionL envOk ?_
  simp-dsimp-implicitDefEqProofs (disch:=omega) only[go_sem,undef,itn1,itn2,Gm]
  intro cZ'
  rw[hbd]
  refine AW.block ?_
  refine AW.sr envOk (fun N hN=> ?_)
  simp-dsimp-implicitDefEqProofs (disch:=omega) only[go_sem,undef,itn1,itn2,Gm]
  refine AC.pure (.of (split_line hmem)) ?_
  try simp-dsimp-implicitDefEqProofs (disch:=omega) only[go_sem,undef,itn1,itn2,Gm]
  refine hN _ ?_
  try clear hN N
  refine AW.sr envOk (fun N hN=> ?_)
  simp-dsimp-implicitDefEqProofs (disch:=omega) only[go_sem,undef,itn1,itn2,Gm]
  refine AC.pure (.of (strconv_ParseInt_o (ord_sz hmem) (line_ord hmem))) ?_
  try simp-dsimp-implicitDefEqProofs (disch:=omega) only[go_sem,undef,itn1,itn2,Gm]
  refine hN _ ?_
  try clear hN N
  refine AW.seq (fun N hN=> ?_)
  refine AW.drawL envOk (by kernel_rfl) 9 (by kernel_rfl) ?_
  simp-dsimp-implicitDefEqProofs (disch:=omega) only[hr_nil,hr_one,hr_if,List.take_succ_cons,List.take_zero,List.drop_succ_cons,List.drop_zero,List.take_nil,List.drop_nil,go_sem,undef,itn1,itn2,Gm]
  refine hN _ ?_
  try clear hN N
  refine AW.seq (fun N3 hN3=> ?_)
  refine AW.sr envOk (fun N hN=> ?_)
  simp-dsimp-implicitDefEqProofs (disch:=omega) only[go_sem,undef,itn1,itn2,Gm]
  refine hN _ ?_
  try clear hN N
  refine AW.sr envOk (fun N hN=> ?_)
  simp-dsimp-implicitDefEqProofs (disch:=omega) only[go_sem,undef,itn1,itn2,Gm]
  refine gopB.mk' (fun h2=> ?_) (fun h2=> ?_)
  ·try simp only[cn]at h2
   simp-dsimp-implicitDefEqProofs (disch:=omega) only[go_sem,undef,ew,Int.toNat_natCast,eg0,eg1,el]
   try simp-dsimp-implicitDefEqProofs (disch:=omega) only[go_sem,undef,itn1,itn2,Gm]
   refine hN _ ?_
   try clear hN N
   refine AW.cond rfl (fun h3=> ?_) (fun h3=> ?_)
   ·try simp only[cn]at h3
    have enum:num (j+1)=num j+1:=by rw[num,if_pos h3]
    refine AW.regionL envOk ?_
    simp-dsimp-implicitDefEqProofs (disch:=omega) only[go_sem,undef,itn1,itn2,Gm,ew,Int.toNat_natCast,eg0,eg1,el,w64]
    refine hN3 _ ?_
    try clear hN3 N3
    refine AW.regionL envOk ?_
    simp-dsimp-implicitDefEqProofs (disch:=omega) only[go_sem,undef,itn1,itn2,Gm]
    have eg2:gcells (j+1+1)=List.take ((j+1)*4) (gcells (j+1))++gcell (j+1):=by rw[List.take_of_length_le (by omega),gcells]
    simp only[gcell,enum]at eg2
    refine⟨rfl,one4 _ _ _ _,(j+1+1,_),⟨rfl,?_,?_,?_,?_,fun _=>⟨?_,?_,?_,?_,?_⟩⟩,gm_le (k:=j+1) (upd_same _ _ _) ?_ ?_ ?_ ?_⟩
    all_goals first|omega|(simp only;omega)|(simp(disch:=omega) only[upd_same,upd_ne,eg2];done)
   ·try simp only[cn]at h3
    have enum:num (j+1)=0:=by rw[num,if_neg h3]
    refine AW.skip ?_
    simp only[thn,blk]
    refine hN3 _ ?_
    try clear hN3 N3
    refine AW.regionL envOk ?_
    simp-dsimp-implicitDefEqProofs (disch:=omega) only[go_sem,undef,itn1,itn2,Gm]
    have eg2:gcells (j+1+1)=List.take ((j+1)*4) (gcells (j+1))++gcell (j+1):=by rw[List.take_of_length_le (by omega),gcells]
    simp only[gcell,enum]at eg2
    refine⟨rfl,one4 _ _ _ _,(j+1+1,_),⟨rfl,?_,?_,?_,?_,fun _=>⟨?_,?_,?_,?_,?_⟩⟩,gm_le (k:=j+1) (upd_same _ _ _) ?_ ?_ ?_ ?_⟩
    all_goals first|omega|(simp only;omega)|(simp(disch:=omega) only[upd_same,upd_ne,eg2];done)
  ·try simp only[cn]at h2
   omega
 ·skip
  rw[gText_cnt10]
  rintro⟨j,id⟩ m r H ⟨hj,i1,i2,i3,i4,i5⟩ hle
  simp only at hj i5
  subst hj
  obtain⟨i6,i7,i8,i9,i10⟩:=i5 (by omega)
  refine hN1 _ ?_
  try clear hN1 N1
  have e82:Gm (nx+1) bp bv (82,id)=upd (upd (upd (upd noH (nx+1) (some [.hs 4 id 0 82])) bp (some [.s ⟨#[10]⟩])) bv (some [.i .i64 0])) id (some (gcells 82)):=Gm_s 81
  rw[e82]at hle
  refine AW.wk (s':=⟨_,upd (upd (upd (upd (upd noH (nx+1) (some [.hs 4 id 0 82])) bp (some [.s ⟨#[10]⟩])) bv (some [.i .i64 0])) id (some (gcells 82))) bs (some [.s r]),_⟩) ⟨wks_refl _,hle,Nat.le_refl _⟩ ?_
  refine AW.sr envOk (fun N hN=> ?_)
  simp-dsimp-implicitDefEqProofs (disch:=omega) only[go_sem,undef,itn1,itn2,Gm,upd_ne]
  refine hN _ ?_
  try clear hN N
  refine AW.ret ?_
  simp-dsimp-implicitDefEqProofs (disch:=omega) only[go_sem,undef]
  exact vw_hsat (by simp(disch:=omega) only[upd_same,upd_ne]) (gcells_len 82)
end Go.Proofs.YthncdadmkppclaaGreatDoor
