import Derived.Test.YtnlfbimjcabgiaaGreatZ37
set_option linter.unusedVariables false
set_option linter.unusedSimpArgs false
namespace Go.Proofs.YtnlfbimjcabgiaaGreat
open Nat (reduceAdd reduceSub reduceGT reduceEqDiff reduceMul)
def CpV (n:Nat) (nx nx':Nat) (H H':HP) (r:AV) (a:List V):Prop:=(∃id,r= .h id 0 a.length∧nx≤id∧id<nx'∧H'=upd H id (some (a.map (vi n))))∨(a.length=0∧r= .v 0 []∧H'=H)
theorem slices_Clone_vls (n:Nat) (a:List V) (ha:a.length≤1099511627776) (nx:Nat) (H:HP):AC Tryz.prog 107 nx H [vls n a] (fun nx' H' r=>CpV n nx nx' H H' r a):=by
  refine AC.nilv ?_
  refine AC.introx envOk Tryz.func107 rfl (by kernel_rfl) Tryz.ntmps107 Tryz.results107 (fun hfr=> ?_)
  refine AW.sr envOk (fun N hN=> ?_)
  simp-dsimp-implicitDefEqProofs (maxSteps:=800000) (disch:=omega) only[go_sem,undef,vls]
  refine hN _ ?_
  try clear hN N
  refine AW.seq (fun N1 hN1=> ?_)
  refine AW.sr envOk (fun N hN=> ?_)
  simp-dsimp-implicitDefEqProofs (maxSteps:=800000) (disch:=omega) only[go_sem,undef,vls]
  refine⟨⟨_,_,rfl,rfl⟩,⟨fun h0=> ?_,?_⟩⟩
  · refine hN _ ?_
    try clear hN N
    refine AW.condT rfl ?_
    refine AW.sr envOk (fun N hN=> ?_)
    simp-dsimp-implicitDefEqProofs (maxSteps:=800000) (disch:=omega) only[go_sem,undef,]
    refine hN _ ?_
    try clear hN N
    refine AW.ret ?_
    simp-dsimp-implicitDefEqProofs (maxSteps:=800000) (disch:=omega) only[go_sem,undef]
    exact⟨H,Le.refl _,.inr (.inr ⟨h0,rfl,rfl⟩)⟩
  · refine hN _ ?_
    try clear hN N
    refine AW.condF rfl ?_
    refine AW.skip ?_
    simp only[thn,blk]
    refine hN1 _ ?_
    try clear hN1 N1
    refine AW.sr envOk (fun N hN=> ?_)
    simp-dsimp-implicitDefEqProofs (maxSteps:=800000) (disch:=omega) only[go_sem,undef,vls,one_viT]
    refine hN _ ?_
    try clear hN N
    refine AW.ret ?_
    simp-dsimp-implicitDefEqProofs (maxSteps:=800000) (disch:=omega) only[go_sem,undef]
    refine⟨_,?_,.inl (.inl ⟨_,rfl,?_,?_,rfl⟩)⟩
    · intro i c hi
      have hlt:H i=some c→i<nx:=fun h=>by apply Classical.byContradiction;intro hn;rw[hfr i (by omega)]at h;cases h
      simp only[upd]at hi ⊢
      split at hi
      · rename_i e;subst e;cases hi;repeat (first|rw[if_pos rfl]|rw[if_neg (by omega)])
      · have:=hlt hi;repeat rw[if_neg (by omega)]
        exact hi
    · omega
    · omega
theorem app_get {pre cs:List AV}:(pre++cs).getD pre.length .j=cs.getD 0 .j:=by
  simp only[List.getD_eq_getElem?_getD]
  rw[List.getElem?_append_right (Nat.le_refl _),Nat.sub_self]
theorem app_dropV {n:Nat} {pre:List AV} {a:AV} {Q:List V}:List.take Q.length (List.drop (pre.length+1) (pre++a::Q.map (vi n)))=Q.map (vi n):=by
  rw[List.drop_append,List.drop_eq_nil_of_le (by omega),List.nil_append,show pre.length+1-pre.length=1 by omega]
  exact List.take_of_length_le (by simp)
noncomputable def adT (P:Pc) (t:Nat→Option V) (us:List V):Nat→Option V:=adF P (clM P t us) t us
theorem clY_rep {P:Pc} {s:Nat×V} (h:0≤invP (P.o s.1) (s.2 s.1)):rep (M P 0) s.2 (invP (P.o s.1) (s.2 s.1)).toNat=clY P s:=by
  unfold clY pwV
  rw[if_neg (by omega)]
theorem pwV_rep {P:Pc} {y:V} {k:Int} (h:0≤k):rep (M P 0) y k.toNat=pwV P y k:=by
  unfold pwV
  rw[if_neg (by omega)]
theorem le_upd2 {H G:HP} {nx b e:Nat} {d c:Option (List AV)} (hfr:∀i,nx≤i→H i=none) (he:G e=c) (hbe:b≠e) (hG:∀i,i<nx→i≠e→G i=H i):Le (upd (upd H e c) b d) (upd G b d):=by
  intro i f hi
  by_cases hb:i=b
  · subst hb;rw[upd_same]at hi ⊢;exact hi
  · rw[upd_ne _ _ hb]at hi ⊢
    by_cases h1:i=e
    · subst h1;rw[upd_same]at hi;rw[he];exact hi
    · rw[upd_ne _ _ h1]at hi
      by_cases hn:i<nx
      · rw[hG i hn h1];exact hi
      · rw[hfr i (by omega)]at hi;cases hi
theorem le_upd3 {H G:HP} {nx b e:Nat} {d d' c:Option (List AV)} (hfr:∀i,nx≤i→H i=none) (hd:d=d') (he:G e=c) (hbe:b≠e) (hG:∀i,i<nx→i≠e→G i=H i):Le (upd (upd H e c) b d) (upd G b d'):=by
  subst hd;exact le_upd2 hfr he hbe hG
section
variable (os:List Int) (pw:List (List Int)) (cj:List (List (List Int)))
set_option maxRecDepth 20000 in
set_option maxHeartbeats 4000000 in
theorem impl_add_ne (h:presOk os pw cj) (hc:Con (pc os pw cj) 0) (t0:Nat→Option V) (hG0:tbG (pc os pw cj) t0) (us:List V) (hl:us.length≤1000) (hne':0<us.length) (hu:∀x∈us,T (pc os pw cj) 0 x) (nx:Nat) (H:HP) (ids id2:Nat) (hne:ids≠id2) (h1':H ids=some [prsP os pw cj,.h id2 0 os.length]) (h2':H id2=some (tbn os.length t0)):AC Tryz.prog 66 nx H [.q ids 0,vls os.length us] (fun _ H' r=>r= .b (tf (adT (pc os pw cj) t0 us≠t0))∧H'=upd H id2 (some (tbn os.length (adT (pc os pw cj) t0 us)))):=by
 have hn6:=h.1.1
 have hv:=h.val
 have hpr:=h.2.1
 have hn0:(pc os pw cj).n=os.length:=rfl
 have hM0:clM (pc os pw cj) t0 us≤2000:=by
  have h1:frN t0 os.length*(os.length+3)≤6*9:=Nat.mul_le_mul (Nat.le_trans (frN_le _) hn6) (by omega)
  show frN t0 os.length*(os.length+3)+us.length≤2000
  omega
 obtain⟨R,hR⟩:∃R,adT (pc os pw cj) t0 us=R:=⟨_,rfl⟩
 rw[hR]
 refine AC.introx envOk Tryz.func66 rfl (by kernel_rfl) Tryz.ntmps66 Tryz.results66 (fun hfr=> ?_)
 have hlt1:ids<nx:=by
  apply Classical.byContradiction;intro hn
  rw[hfr ids (by omega)]at h1';cases h1'
 have hlt2:id2<nx:=by
  apply Classical.byContradiction;intro hn
  rw[hfr id2 (by omega)]at h2';cases h2'
 refine AW.sr envOk (fun N hN=> ?_)
 simp-dsimp-implicitDefEqProofs (maxSteps:=800000) (disch:=omega) only[go_sem,undef,prsP,w64,vi,ints,gd_i,h1',h2',tbc_nil,tbc_ne,nilB_pos,ex_sl,eq_self,one_nilT,one_viT,tk_map,Nat.min_self,app_get,app_dropV,vls,Int.toNat_one,Nat.add_sub_cancel]
 refine hN _ ?_
 try clear hN N
 refine AW.sr envOk (fun N hN=> ?_)
 simp-dsimp-implicitDefEqProofs (maxSteps:=800000) (disch:=omega) only[go_sem,undef,prsP,w64,vi,ints,gd_i,h1',h2',tbc_nil,tbc_ne,nilB_pos,ex_sl,eq_self,one_nilT,one_viT,tk_map,Nat.min_self,app_get,app_dropV,vls,Int.toNat_one,Nat.add_sub_cancel]
 refine hN _ ?_
 try clear hN N
 refine AW.sr envOk (fun N hN=> ?_)
 simp-dsimp-implicitDefEqProofs (maxSteps:=800000) (disch:=omega) only[go_sem,undef,prsP,w64,vi,ints,gd_i,h1',h2',tbc_nil,tbc_ne,nilB_pos,ex_sl,eq_self,one_nilT,one_viT,tk_map,Nat.min_self,app_get,app_dropV,vls,Int.toNat_one,Nat.add_sub_cancel]
 refine(slices_Clone_vls os.length us (by omega) _ _).mono2 ?_
 rintro nx1 H1 r hx1 (⟨id0,rfl,hid1,hid2,rfl⟩|⟨h0,-,-⟩)
 rotate_left
 ·omega
 try simp-dsimp-implicitDefEqProofs (maxSteps:=800000) (disch:=omega) only[go_sem,undef,prsP,w64,vi,ints,gd_i,h1',h2',tbc_nil,tbc_ne,nilB_pos,ex_sl,eq_self,one_nilT,one_viT,tk_map,Nat.min_self,app_get,app_dropV,vls,Int.toNat_one,Nat.add_sub_cancel]
 refine hN _ ?_
 try clear hN N
 refine AW.seq (fun N1 hN1=> ?_)
 refine AW.block ?_
 refine AW.loopN (α:=(Nat→Option V)×List V×Nat×List AV×Nat) (fun x=>sl 109 [(0,.q ids 0),(5,.b (tf (x.1≠t0))),(6,.h x.2.2.1 x.2.2.2.1.length x.2.1.length)]) (fun x=>upd (upd H id2 (some (tbn os.length x.1))) x.2.2.1 (some (x.2.2.2.1++x.2.1.map (vi os.length)))) (fun x m=>(nx≤x.2.2.1∧x.2.2.1<m∧x.2.2.2.2≤2000)∧tbG (pc os pw cj) x.1∧(∀y∈x.2.1,T (pc os pw cj) 0 y)∧(∀d y,t0 d=some y→x.1 d=some y)∧clM (pc os pw cj) x.1 x.2.1≤x.2.2.2.2∧adF (pc os pw cj) x.2.2.2.2 x.1 x.2.1=R) (fun x=>x.2.2.2.2) ((t0,us,id0,[],clM (pc os pw cj) t0 us)) ?_ ?_ (by dsimp only;rw[List.nil_append];exact le_upd2 hfr h2' (by omega) (fun i h1 h2=>rfl)) ?_
 ·exact⟨⟨by first|omega|(simp only;omega)|(dsimp only;omega),by first|omega|(simp only;omega)|(dsimp only;omega),hM0⟩,hG0,hu,fun _ _ q=>q,Nat.le_refl _,hR⟩
 ·simp(disch:=omega) [wks,wkA,sl,tf]<;>omega
 ·skip
  rintro⟨t,Q,id,pre,f⟩ m ⟨⟨hid,hidm,hf9⟩,hG,hQ,hx,hM,hC⟩
  dsimp only at hid hidm hf9 hG hQ hx hM hC ⊢
  simp-dsimp-implicitDefEqProofs (maxSteps:=800000) (disch:=omega) only[go_sem,undef]
  refine AW.seq (fun N2 hN2=> ?_)
  refine AW.sr envOk (fun N hN=> ?_)
  simp-dsimp-implicitDefEqProofs (maxSteps:=800000) (disch:=omega) only[go_sem,undef,prsP,w64,vi,ints,gd_i,h1',h2',tbc_nil,tbc_ne,nilB_pos,ex_sl,eq_self,one_nilT,one_viT,tk_map,Nat.min_self,app_get,app_dropV,vls,Int.toNat_one,Nat.add_sub_cancel]
  refine hN _ ?_
  try clear hN N
  refine AW.cond rfl (fun h1=> ?_) (fun h1=> ?_)
  ·try simp only[cn]at h1
   obtain⟨a,Q',rfl⟩:∃a Q',Q=a::Q':=by
    cases Q with
    |nil=>simp at h1
    |cons a Q'=>exact⟨a,Q',rfl⟩
   have haT:=hQ a List.mem_cons_self
   have hQ':∀y∈Q',T (pc os pw cj) 0 y:=fun y hy=>hQ y (List.mem_cons_of_mem _ hy)
   have hQl:Q'.length≤2000:=by unfold clM at hM;simp at hM;omega
   obtain⟨i2,i3,i4⟩:=siS_sp hv hc hG haT
   have hdec:=adR_dec hv hc hG (q:=Q') haT
   have hGR:=adR_G hv hc (fun d hd=>hpr d hd) hG hQ' haT
   have hldv:=siS_ld hv hc hG haT
   obtain⟨f',hf⟩:∃f',f=f'+1:=⟨f-1,by unfold clM at hM;simp at hM;omega⟩
   subst hf
   have hct:=hC
   rw[adF,if_neg (by simp)]at hct
   rw[show(a::Q').drop 1=Q' from rfl,show(a::Q').getD 0 z0=a from rfl]at hct
   have hMl:frN t (pc os pw cj).n*((pc os pw cj).n+3)+(Q'.length+1)≤f'+1:=by unfold clM at hM;simpa using hM
   have hsif:=impl_sift_ok os pw cj h hc t hG a haT
   obtain⟨⟨sd,su⟩,hs⟩:∃s,siS (pc os pw cj) t a=s:=⟨_,rfl⟩
   rw[hs]at i2 i3 i4 hdec hct hldv hsif hGR
   rw[hn0]at i2 i4 hldv
   dsimp only at i2 i3 i4 hldv hsif
   refine AW.skip ?_
   simp only[thn,blk]
   refine hN2 _ ?_
   try clear hN2 N2
   refine AW.block ?_
   refine AW.sr envOk (fun N hN=> ?_)
   simp-dsimp-implicitDefEqProofs (maxSteps:=800000) (disch:=omega) only[go_sem,undef,prsP,w64,vi,ints,gd_i,h1',h2',tbc_nil,tbc_ne,nilB_pos,ex_sl,eq_self,one_nilT,one_viT,tk_map,Nat.min_self,app_get,app_dropV,vls,Int.toNat_one,Nat.add_sub_cancel]
   refine(hsif _ _ ids id2 (by simp(disch:=omega) only[upd_ne];exact h1') (by simp(disch:=omega) only[upd_ne,upd_same])).mono2 ?_
   rintro m1 H1 r1 hm1 ⟨rfl,rfl⟩
   try simp-dsimp-implicitDefEqProofs (maxSteps:=800000) (disch:=omega) only[go_sem,undef,prsP,w64,vi,ints,gd_i,h1',h2',tbc_nil,tbc_ne,nilB_pos,ex_sl,eq_self,one_nilT,one_viT,tk_map,Nat.min_self,app_get,app_dropV,vls,Int.toNat_one,Nat.add_sub_cancel]
   refine hN _ ?_
   try clear hN N
   refine AW.sr envOk (fun N hN=> ?_)
   simp-dsimp-implicitDefEqProofs (maxSteps:=800000) (disch:=omega) only[go_sem,undef,prsP,w64,vi,ints,gd_i,h1',h2',tbc_nil,tbc_ne,nilB_pos,ex_sl,eq_self,one_nilT,one_viT,tk_map,Nat.min_self,app_get,app_dropV,vls,Int.toNat_one,Nat.add_sub_cancel]
   refine hN _ ?_
   try clear hN N
   refine AW.sr envOk (fun N hN=> ?_)
   simp-dsimp-implicitDefEqProofs (maxSteps:=800000) (disch:=omega) only[go_sem,undef,prsP,w64,vi,ints,gd_i,h1',h2',tbc_nil,tbc_ne,nilB_pos,ex_sl,eq_self,one_nilT,one_viT,tk_map,Nat.min_self,app_get,app_dropV,vls,Int.toNat_one,Nat.add_sub_cancel]
   have hdp:=impl_depthOf_v os.length (by omega) su
   rw[hldv]at hdp
   refine AC.pure (.of (hdp)) ?_
   try simp-dsimp-implicitDefEqProofs (maxSteps:=800000) (disch:=omega) only[go_sem,undef,prsP,w64,vi,ints,gd_i,h1',h2',tbc_nil,tbc_ne,nilB_pos,ex_sl,eq_self,one_nilT,one_viT,tk_map,Nat.min_self,app_get,app_dropV,vls,Int.toNat_one,Nat.add_sub_cancel]
   refine hN _ ?_
   try clear hN N
   refine AW.seq (fun N3 hN3=> ?_)
   refine AW.sr envOk (fun N hN=> ?_)
   simp-dsimp-implicitDefEqProofs (maxSteps:=800000) (disch:=omega) only[go_sem,undef,prsP,w64,vi,ints,gd_i,h1',h2',tbc_nil,tbc_ne,nilB_pos,ex_sl,eq_self,one_nilT,one_viT,tk_map,Nat.min_self,app_get,app_dropV,vls,Int.toNat_one,Nat.add_sub_cancel]
   refine hN _ ?_
   try clear hN N
   refine AW.cond rfl (fun h2=> ?_) (fun h2=> ?_)
   ·try simp only[cn]at h2
    have hcr:adR (pc os pw cj) t Q' (sd,su)=(t,Q'):=by rw[adR,if_pos (show sd=(pc os pw cj).n from (by show sd=os.length;omega))]
    rw[hcr]at hct hdec
    refine AW.exit ?_
    simp only[thn,blk,if_true]
    refine⟨(t,Q',id,pre++[vi os.length a],f'),?_,by dsimp only;rw[List.append_assoc];exact Le.refl _,?_,?_⟩
    ·first|(simp(disch:=omega) [wks,wkA,sl,htf']<;>omega)|(simp(disch:=omega) [wks,wkA,sl]<;>omega)
    ·exact⟨⟨by first|omega|(simp only;omega)|(dsimp only;omega),by first|omega|(simp only;omega)|(dsimp only;omega),by first|omega|(simp only;omega)|(dsimp only;omega)⟩,hG,hQ',hx,by (try (dsimp only at hdec ⊢));omega,hct⟩
    ·first|omega|(simp only;omega)
   ·try simp only[cn]at h2
    have hd1:sd<os.length:=by omega
    obtain⟨j1,j2⟩:=i4 hd1
    have hr:=i3.r sd (Nat.le_refl _) hd1
    have hoe:(pc os pw cj).o sd=os.getD sd 0:=rfl
    have hp4:=hpr sd hd1
    have hpb:=pr4_bd hp4
    have hsT:=i3.mono hv (Nat.zero_le _)
    obtain⟨v1,v2,v3⟩:=invP_ok hp4 (show 1≤su sd by omega) (by omega)
    obtain⟨yT1,yl⟩:=clY_sp hv hc (fun d hd=>hpr d hd) (s:=(sd,su)) hd1 i3 j2
    have hyT:=yT1.mono hv (Nat.zero_le _)
    have hpy:=impl_power_i h 0 hc su hsT (invP (os.getD sd 0) (su sd)) (by omega) (by omega)
    have hcl:rep (M (pc os pw cj) 0) su (invP (os.getD sd 0) (su sd)).toNat=clY (pc os pw cj) (sd,su):=clY_rep (P:=pc os pw cj) (s:=(sd,su)) (show 0≤invP (os.getD sd 0) (su sd) by omega)
    rw[hcl]at hpy
    obtain⟨y,hy⟩:∃y,clY (pc os pw cj) (sd,su)=y:=⟨_,rfl⟩
    rw[hy]at hyT yT1 yl hpy
    have hpz:=impl_power_i h 0 hc y hyT (os.getD sd 0) (by omega) (by omega)
    rw[pwV_rep (by omega)]at hpz
    have hgs:splice (tbn os.length t) sd [AV.v os.length (ivs os.length y)]=tbn os.length (oset t sd y):=tbn_set hd1
    have hcr:adR (pc os pw cj) t Q' (sd,su)=(oset t sd y,Q'++[su]++[pwV (pc os pw cj) y (os.getD sd 0)]++comI (pc os pw cj) t y os.length):=by
     rw[adR,if_neg (show ¬sd=(pc os pw cj).n from (by show ¬sd=os.length;omega)),hy];rfl
    rw[hcr]at hct hdec hGR
    have htf:tf (oset t sd y≠t0)=true:=tf_t (fun e=>by
     have e1:=congrFun e sd
     unfold oset at e1
     rw[if_pos rfl]at e1
     have e2:=hx sd y e1.symm
     rw[j1]at e2;cases e2)
    have htf':tf (¬oset t sd y=t0)=true:=htf
    have hx2:∀d z,t0 d=some z→oset t sd y d=some z:=fun d z hz=>by
     unfold oset
     rw[if_neg (fun e=>by have:=hx d z hz;rw[e,j1]at this;cases this)]
     exact hx d z hz
    refine AW.skip ?_
    simp only[thn,blk]
    refine hN3 _ ?_
    try clear hN3 N3
    refine AW.sr envOk (fun N hN=> ?_)
    simp-dsimp-implicitDefEqProofs (maxSteps:=800000) (disch:=omega) only[go_sem,undef,prsP,w64,vi,ints,gd_i,h1',h2',tbc_nil,tbc_ne,nilB_pos,ex_sl,eq_self,one_nilT,one_viT,tk_map,Nat.min_self,app_get,app_dropV,vls,Int.toNat_one,Nat.add_sub_cancel]
    refine hN _ ?_
    try clear hN N
    refine AW.seq (fun N hN=> ?_)
    refine AW.drawL envOk (by kernel_rfl) 20 (by kernel_rfl) ?_
    simp-dsimp-implicitDefEqProofs (maxSteps:=800000) (disch:=omega) only[hr_nil,hr_one,hr_if,List.take_succ_cons,List.take_zero,List.drop_succ_cons,List.drop_zero,List.take_nil,List.drop_nil,go_sem,undef,prsP,w64,vi,ints,gd_i,h1',h2',tbc_nil,tbc_ne,nilB_pos,ex_sl,eq_self,one_nilT,one_viT,tk_map,Nat.min_self,app_get,app_dropV,vls,Int.toNat_one,Nat.add_sub_cancel]
    refine⟨_,.of (impl_inverseMod_ok (su sd) (os.getD sd 0) hp4 (by omega) (by omega)),?_⟩
    try simp-dsimp-implicitDefEqProofs (maxSteps:=800000) (disch:=omega) only[go_sem,undef,prsP,w64,vi,ints,gd_i,h1',h2',tbc_nil,tbc_ne,nilB_pos,ex_sl,eq_self,one_nilT,one_viT,tk_map,Nat.min_self,app_get,app_dropV,vls,Int.toNat_one,Nat.add_sub_cancel]
    refine hN _ ?_
    try clear hN N
    refine AW.sr envOk (fun N hN=> ?_)
    simp-dsimp-implicitDefEqProofs (maxSteps:=800000) (disch:=omega) only[go_sem,undef,prsP,w64,vi,ints,gd_i,h1',h2',tbc_nil,tbc_ne,nilB_pos,ex_sl,eq_self,one_nilT,one_viT,tk_map,Nat.min_self,app_get,app_dropV,vls,Int.toNat_one,Nat.add_sub_cancel]
    refine hN _ ?_
    try clear hN N
    refine AW.sr envOk (fun N hN=> ?_)
    simp-dsimp-implicitDefEqProofs (maxSteps:=800000) (disch:=omega) only[go_sem,undef,prsP,w64,vi,ints,gd_i,h1',h2',tbc_nil,tbc_ne,nilB_pos,ex_sl,eq_self,one_nilT,one_viT,tk_map,Nat.min_self,app_get,app_dropV,vls,Int.toNat_one,Nat.add_sub_cancel]
    refine AC.pure (.of (hpy)) ?_
    try simp-dsimp-implicitDefEqProofs (maxSteps:=800000) (disch:=omega) only[go_sem,undef,prsP,w64,vi,ints,gd_i,h1',h2',tbc_nil,tbc_ne,nilB_pos,ex_sl,eq_self,one_nilT,one_viT,tk_map,Nat.min_self,app_get,app_dropV,vls,Int.toNat_one,Nat.add_sub_cancel]
    refine hN _ ?_
    try clear hN N
    refine AW.seq (fun N hN=> ?_)
    refine AW.drawL envOk (by kernel_rfl) 18 (by kernel_rfl) ?_
    simp-dsimp-implicitDefEqProofs (maxSteps:=800000) (disch:=omega) only[hr_nil,hr_one,hr_if,List.take_succ_cons,List.take_zero,List.drop_succ_cons,List.drop_zero,List.take_nil,List.drop_nil,go_sem,undef,prsP,w64,vi,ints,gd_i,h1',h2',tbc_nil,tbc_ne,nilB_pos,ex_sl,eq_self,one_nilT,one_viT,tk_map,Nat.min_self,app_get,app_dropV,vls,Int.toNat_one,Nat.add_sub_cancel]
    refine⟨_,.of (hpz),?_⟩
    try simp-dsimp-implicitDefEqProofs (maxSteps:=800000) (disch:=omega) only[go_sem,undef,prsP,w64,vi,ints,gd_i,h1',h2',tbc_nil,tbc_ne,nilB_pos,ex_sl,eq_self,one_nilT,one_viT,tk_map,Nat.min_self,app_get,app_dropV,vls,Int.toNat_one,Nat.add_sub_cancel]
    refine hN _ ?_
    try clear hN N
    refine AW.seq (fun N4 hN4=> ?_)
    refine AW.sr envOk (fun N hN=> ?_)
    simp-dsimp-implicitDefEqProofs (maxSteps:=800000) (disch:=omega) only[go_sem,undef,prsP,w64,vi,ints,gd_i,h1',h2',tbc_nil,tbc_ne,nilB_pos,ex_sl,eq_self,one_nilT,one_viT,tk_map,Nat.min_self,app_get,app_dropV,vls,Int.toNat_one,Nat.add_sub_cancel]
    refine hN _ ?_
    try clear hN N
    refine AW.block ?_
    refine AW.loopN (α:=Nat×Nat×List V) (fun x=>sl 109 [(0,.q ids 0),(5,.b true),(6,.h x.2.1 0 x.2.2.length),(7,vi os.length y),(8,.i .i64 sd),(82,.h id2 0 os.length),(83,.i .i64 os.length),(84,.i .i64 x.1)]) (fun x=>upd (upd H id2 (some (tbn os.length t))) x.2.1 (some (x.2.2.map (vi os.length)))) (fun x m=>(x.1≤os.length∧nx≤x.2.1∧x.2.1<m)∧x.2.2=Q'++[su]++[pwV (pc os pw cj) y (os.getD sd 0)]++comI (pc os pw cj) t y x.1) (fun x=>os.length-x.1) ((0,m1+3+3+4+1+20+5+8+18,Q'++[su]++[pwV (pc os pw cj) y (os.getD sd 0)])) ?_ ?_ (by exact le_upd3 hfr (by dsimp only;rw[List.take_of_length_le (by simp)];simp[vi]) (by simp(disch:=omega) only[upd_ne,upd_same]) (by first|omega|(simp only;omega)|(dsimp only;omega)) (fun i h1 h2=>by simp(disch:=omega) only[upd_ne])) ?_
    ·exact⟨⟨by omega,by first|omega|(simp only;omega)|(dsimp only;omega),by first|omega|(simp only;omega)|(dsimp only;omega)⟩,by simp[comI]⟩
    ·simp(disch:=omega) [wks,wkA,sl,htf,vi]<;>omega
    ·skip
     rintro⟨e,id3,K⟩ m2 ⟨⟨he,hid5,hid6⟩,hK⟩
     all_goals dsimp only at he hid5 hid6 hK
     have hcl2:=comI_len (P:=pc os pw cj) (t:=t) (y:=y) e
     have hKl:K.length≤3000:=by rw[hK];simp only[List.length_append,List.length_cons,List.length_nil];omega
     by_cases hb:t e=none
     ·skip
      have hb0:=tkf_none hb
      have hs2:comI (pc os pw cj) t y (e+1)=comI (pc os pw cj) t y e:=by rw[comI,hb]
      simp-dsimp-implicitDefEqProofs (maxSteps:=800000) (disch:=omega) only[go_sem,undef]
      refine AW.sr envOk (fun N hN=> ?_)
      simp-dsimp-implicitDefEqProofs (maxSteps:=800000) (disch:=omega) only[go_sem,undef,prsP,w64,vi,ints,gd_i,h1',h2',tbc_nil,tbc_ne,nilB_pos,ex_sl,eq_self,one_nilT,one_viT,tk_map,Nat.min_self,app_get,app_dropV,vls,Int.toNat_one,Nat.add_sub_cancel]
      refine hN _ ?_
      try clear hN N
      refine AW.seq (fun N5 hN5=> ?_)
      refine AW.cond rfl (fun h3=> ?_) (fun h3=> ?_)
      ·try simp only[cn]at h3
       refine AW.skip ?_
       simp only[thn,blk]
       refine hN5 _ ?_
       try clear hN5 N5
       refine AW.seq (fun N6 hN6=> ?_)
       refine AW.block ?_
       refine AW.sr envOk (fun N hN=> ?_)
       simp-dsimp-implicitDefEqProofs (maxSteps:=800000) (disch:=omega) only[go_sem,undef,prsP,w64,vi,ints,gd_i,h1',h2',tbc_nil,tbc_ne,nilB_pos,ex_sl,eq_self,one_nilT,one_viT,tk_map,Nat.min_self,app_get,app_dropV,vls,Int.toNat_one,Nat.add_sub_cancel]
       refine hN _ ?_
       try clear hN N
       refine AW.sr envOk (fun N hN=> ?_)
       simp-dsimp-implicitDefEqProofs (maxSteps:=800000) (disch:=omega) only[go_sem,undef,prsP,w64,vi,ints,gd_i,h1',h2',tbc_nil,tbc_ne,nilB_pos,ex_sl,eq_self,one_nilT,one_viT,tk_map,Nat.min_self,app_get,app_dropV,vls,Int.toNat_one,Nat.add_sub_cancel]
       refine hN _ ?_
       try clear hN N
       refine AW.cond rfl (fun h4=> ?_) (fun h4=> ?_)
       ·try simp only[cn]at h4
        first|done|(cases h4)|(exact absurd h4 (by simp))
       ·try simp only[cn]at h4
        refine AW.skip ?_
        simp only[thn,blk]
        refine hN6 _ ?_
        try clear hN6 N6
        refine AW.regionL envOk ?_
        simp-dsimp-implicitDefEqProofs (maxSteps:=800000) (disch:=omega) only[go_sem,undef,prsP,w64,vi,ints,gd_i,h1',h2',tbc_nil,tbc_ne,nilB_pos,ex_sl,eq_self,one_nilT,one_viT,tk_map,Nat.min_self,app_get,app_dropV,vls,Int.toNat_one,Nat.add_sub_cancel]
        refine⟨(e+1,id3,K),?_,fun _ _ h=>h,?_,?_⟩
        ·simp(disch:=omega) [wks,wkA,sl,htf,w64,vi]<;>omega
        ·exact⟨⟨by first|omega|(simp only;omega)|(dsimp only;omega),by first|omega|(simp only;omega)|(dsimp only;omega),by first|omega|(simp only;omega)|(dsimp only;omega)⟩,by (try simp only[]);rw[hs2];exact hK⟩
        ·first|omega|(simp only;omega)
      ·try simp only[cn]at h3
       have hen:e=os.length:=by omega
       subst hen
       refine AW.exit ?_
       simp only[thn,blk,if_true]
       refine hN4 _ ?_
       try clear hN4 N4
       refine AW.regionL envOk ?_
       simp-dsimp-implicitDefEqProofs (maxSteps:=800000) (disch:=omega) only[go_sem,undef,prsP,w64,vi,ints,gd_i,h1',h2',tbc_nil,tbc_ne,nilB_pos,ex_sl,eq_self,one_nilT,one_viT,tk_map,Nat.min_self,app_get,app_dropV,vls,Int.toNat_one,Nat.add_sub_cancel]
       refine⟨(oset t sd y,K,id3,[],f'),?_,(by intro i c hi;simp only[upd,List.nil_append]at hi ⊢;grind),?_,?_⟩
       ·first|(simp(disch:=omega) [wks,wkA,sl,htf']<;>omega)|(simp(disch:=omega) [wks,wkA,sl]<;>omega)
       ·exact⟨⟨by first|omega|(simp only;omega)|(dsimp only;omega),by first|omega|(simp only;omega)|(dsimp only;omega),by first|omega|(simp only;omega)|(dsimp only;omega)⟩,hGR.1,by rw[hK];exact hGR.2,hx2,by (try (dsimp only at hdec ⊢));rw[hK];omega,by dsimp only;rw[hK];exact hct⟩
       ·first|omega|(simp only;omega)
     ·skip
      obtain⟨hb0,hz⟩:=tkf_some hb
      obtain⟨z,hzz⟩:∃z,(t e).getD z0=z:=⟨_,rfl⟩
      rw[hzz]at hz
      have hzT:=(hG e z hz).2.1.mono hv (Nat.zero_le e)
      have hs2:comI (pc os pw cj) t y (e+1)=comI (pc os pw cj) t y e++[cmI (pc os pw cj) z y]:=by rw[comI,hz]
      simp-dsimp-implicitDefEqProofs (maxSteps:=800000) (disch:=omega) only[go_sem,undef]
      refine AW.sr envOk (fun N hN=> ?_)
      simp-dsimp-implicitDefEqProofs (maxSteps:=800000) (disch:=omega) only[go_sem,undef,prsP,w64,vi,ints,gd_i,h1',h2',tbc_nil,tbc_ne,nilB_pos,ex_sl,eq_self,one_nilT,one_viT,tk_map,Nat.min_self,app_get,app_dropV,vls,Int.toNat_one,Nat.add_sub_cancel]
      refine hN _ ?_
      try clear hN N
      refine AW.seq (fun N7 hN7=> ?_)
      refine AW.cond rfl (fun h5=> ?_) (fun h5=> ?_)
      ·try simp only[cn]at h5
       refine AW.skip ?_
       simp only[thn,blk]
       refine hN7 _ ?_
       try clear hN7 N7
       refine AW.seq (fun N8 hN8=> ?_)
       refine AW.block ?_
       refine AW.sr envOk (fun N hN=> ?_)
       simp-dsimp-implicitDefEqProofs (maxSteps:=800000) (disch:=omega) only[go_sem,undef,prsP,w64,vi,ints,gd_i,h1',h2',tbc_nil,tbc_ne,nilB_pos,ex_sl,eq_self,one_nilT,one_viT,tk_map,Nat.min_self,app_get,app_dropV,vls,Int.toNat_one,Nat.add_sub_cancel]
       refine hN _ ?_
       try clear hN N
       refine AW.sr envOk (fun N hN=> ?_)
       simp-dsimp-implicitDefEqProofs (maxSteps:=800000) (disch:=omega) only[go_sem,undef,prsP,w64,vi,ints,gd_i,h1',h2',tbc_nil,tbc_ne,nilB_pos,ex_sl,eq_self,one_nilT,one_viT,tk_map,Nat.min_self,app_get,app_dropV,vls,Int.toNat_one,Nat.add_sub_cancel]
       refine hN _ ?_
       try clear hN N
       refine AW.cond rfl (fun h6=> ?_) (fun h6=> ?_)
       ·try simp only[cn]at h6
        refine AW.regionL envOk ?_
        simp-dsimp-implicitDefEqProofs (maxSteps:=800000) (disch:=omega) only[go_sem,undef,prsP,w64,vi,ints,gd_i,h1',h2',tbc_nil,tbc_ne,nilB_pos,ex_sl,eq_self,one_nilT,one_viT,tk_map,Nat.min_self,app_get,app_dropV,vls,Int.toNat_one,Nat.add_sub_cancel,hzz]
        refine AC.pure (.of (impl_commutator_ok os pw cj h hc z y hzT hyT)) ?_
        try simp-dsimp-implicitDefEqProofs (maxSteps:=800000) (disch:=omega) only[go_sem,undef,prsP,w64,vi,ints,gd_i,h1',h2',tbc_nil,tbc_ne,nilB_pos,ex_sl,eq_self,one_nilT,one_viT,tk_map,Nat.min_self,app_get,app_dropV,vls,Int.toNat_one,Nat.add_sub_cancel]
        refine hN8 _ ?_
        try clear hN8 N8
        refine AW.regionL envOk ?_
        simp-dsimp-implicitDefEqProofs (maxSteps:=800000) (disch:=omega) only[go_sem,undef,prsP,w64,vi,ints,gd_i,h1',h2',tbc_nil,tbc_ne,nilB_pos,ex_sl,eq_self,one_nilT,one_viT,tk_map,Nat.min_self,app_get,app_dropV,vls,Int.toNat_one,Nat.add_sub_cancel]
        refine⟨(e+1,m2+1+3+2+9,K++[cmI (pc os pw cj) z y]),?_,by exact le_upd3 hfr (by dsimp only;simp[vi]) (by simp(disch:=omega) only[upd_ne,upd_same]) (by first|omega|(simp only;omega)|(dsimp only;omega)) (fun i h1 h2=>by simp(disch:=omega) only[upd_ne]),?_,?_⟩
        ·simp(disch:=omega) [wks,wkA,sl,htf,w64,vi]<;>omega
        ·exact⟨⟨by first|omega|(simp only;omega)|(dsimp only;omega),by first|omega|(simp only;omega)|(dsimp only;omega),by first|omega|(simp only;omega)|(dsimp only;omega)⟩,by (try simp only[]);rw[hs2,hK];simp only[List.append_assoc]⟩
        ·first|omega|(simp only;omega)
       ·try simp only[cn]at h6
        first|done|(cases h6)|(exact absurd h6 (by simp))
      ·try simp only[cn]at h5
       have hen:e=os.length:=by omega
       subst hen
       refine AW.exit ?_
       simp only[thn,blk,if_true]
       refine hN4 _ ?_
       try clear hN4 N4
       refine AW.regionL envOk ?_
       simp-dsimp-implicitDefEqProofs (maxSteps:=800000) (disch:=omega) only[go_sem,undef,prsP,w64,vi,ints,gd_i,h1',h2',tbc_nil,tbc_ne,nilB_pos,ex_sl,eq_self,one_nilT,one_viT,tk_map,Nat.min_self,app_get,app_dropV,vls,Int.toNat_one,Nat.add_sub_cancel]
       refine⟨(oset t sd y,K,id3,[],f'),?_,(by intro i c hi;simp only[upd,List.nil_append]at hi ⊢;grind),?_,?_⟩
       ·first|(simp(disch:=omega) [wks,wkA,sl,htf']<;>omega)|(simp(disch:=omega) [wks,wkA,sl]<;>omega)
       ·exact⟨⟨by first|omega|(simp only;omega)|(dsimp only;omega),by first|omega|(simp only;omega)|(dsimp only;omega),by first|omega|(simp only;omega)|(dsimp only;omega)⟩,hGR.1,by rw[hK];exact hGR.2,hx2,by (try (dsimp only at hdec ⊢));rw[hK];omega,by dsimp only;rw[hK];exact hct⟩
       ·first|omega|(simp only;omega)
  ·try simp only[cn]at h1
   refine AW.exit ?_
   simp only[thn,blk,if_true]
   refine hN1 _ ?_
   try clear hN1 N1
   refine AW.sr envOk (fun N hN=> ?_)
   simp-dsimp-implicitDefEqProofs (maxSteps:=800000) (disch:=omega) only[go_sem,undef,prsP,w64,vi,ints,gd_i,h1',h2',tbc_nil,tbc_ne,nilB_pos,ex_sl,eq_self,one_nilT,one_viT,tk_map,Nat.min_self,app_get,app_dropV,vls,Int.toNat_one,Nat.add_sub_cancel]
   refine hN _ ?_
   try clear hN N
   refine AW.ret ?_
   simp-dsimp-implicitDefEqProofs (maxSteps:=800000) (disch:=omega) only[go_sem,undef]
   have hQ0:Q=[]:=List.length_eq_zero_iff.1 (by omega)
   subst hQ0
   have htR:t=R:=by rw[←hC];cases f with|zero=>rfl|succ f=>rfl
   subst htR
   exact⟨_,le_new (by rw[upd_ne _ _ (by omega)];exact hfr id hid),rfl,rfl⟩
end
end Go.Proofs.YtnlfbimjcabgiaaGreat
