import Derived.Test.YtnlfbimjcabgiaaGreatZ33
import Derived.Test.YtnlfbimjcabgiaaGreatZ34
set_option linter.unusedVariables false
set_option linter.unusedSimpArgs false
namespace Go.Proofs.YtnlfbimjcabgiaaGreat
open Nat (reduceAdd reduceSub reduceGT reduceEqDiff reduceMul)
noncomputable def rdw (P:Pc) (x w:V):V:=if x (ldV P.n w)=0 then x else rdR P (ldV P.n w) w x
noncomputable def rdl (P:Pc) (us:List V) (x:V):V:=us.foldl (rdw P) x
theorem rdn_foldl {P:Pc} {dn:Nat→Option V} (hd:∀e w,dn e=some w→ldV P.n w=e):∀f e x,rdn (rdR P) dn f e x=rdl P ((List.range' e f).filterMap dn) x:=by
  intro f
  induction f with
  |zero=>intro e x;rfl
  | succ f ih=>
    intro e x
    rw[rdn,ih,List.range'_succ]
    cases h:dn e with
    |none=>rw[List.filterMap_cons_none h]
    | some w=>
      rw[List.filterMap_cons_some h]
      unfold rdl
      rw[List.foldl_cons]
      unfold rdw
      rw[hd e w h]
theorem rdn_rdl {P:Pc} {dn:Nat→Option V} (hd:∀e w,dn e=some w→ldV P.n w=e) (x:V):rdn (rdR P) dn P.n 0 x=rdl P (outS dn P.n) x:=by
  rw[rdn_foldl hd]
  unfold outS
  rw[List.range_eq_range']
theorem rdn_low {rd:Nat→V→V→V} {dn:Nat→Option V} {f:Nat}:∀k e x,(∀i,e≤i→i<e+k→dn i=none)→rdn rd dn (f+k) e x=rdn rd dn f (e+k) x:=by
  intro k
  induction k with
  |zero=>intro e x _;rfl
  | succ k ih=>
    intro e x h
    rw[←Nat.add_assoc,rdn,h e (Nat.le_refl _) (by omega)]
    show rdn rd dn (f+k) (e+1) x=_
    rw[ih (e+1) x (fun i h1 h2=>h i (by omega) (by omega)),show e+1+k=e+(k+1) by omega]
theorem outS_front {dn:Nat→Option V} {d:Nat} {x:V} (h0:∀e,e≤d→dn e=none):∀k,(k≤d→outS dn k=[])∧(k≤d→outS (fun e=>if e=d then some x else dn e) k=[])∧(d<k→outS (fun e=>if e=d then some x else dn e) k=x::outS dn k):=by
  intro k
  induction k with
  |zero=>exact⟨fun _=>rfl,fun _=>rfl,fun h=>by omega⟩
  | succ k ih=>
    obtain⟨i1,i2,i3⟩:=ih
    refine⟨fun h=> ?_,fun h=> ?_,fun h=> ?_⟩
    · rw[outS_none (h0 k (by omega))];exact i1 (by omega)
    · rw[outS_none (by rw[if_neg (by omega)];exact h0 k (by omega))];exact i2 (by omega)
    · by_cases e:k=d
      · subst e
        rw[outS_some (y:=x) (by rw[if_pos rfl]),i2 (Nat.le_refl _),outS_none (h0 k (Nat.le_refl _)),i1 (Nat.le_refl _)]
        rfl
      · cases hk:dn k with
        | none=>
          rw[outS_none (by rw[if_neg e];exact hk),outS_none hk];exact i3 (by omega)
        | some y=>
          rw[outS_some (y:=y) (by rw[if_neg e];exact hk),outS_some hk,i3 (by omega)];rfl
theorem rdR_end {P:Pc} (hv:Val P) (hc:Con P 0) {d:Nat} (hd:d<P.n) {w e:V} (hw:T P d w) (h1:w d=1) (he:T P 0 e) {q:Nat} (hq:q≤(P.o d-e d).toNat):
    M P 0 e (rep (M P 0) w q) d=(e d+q)%P.o d:=by
  have l:=lvl hv hc
  rw[(M_at hv hc hd he ((l.g d).rep hw q)).2,l.rep_lead hd hw h1,Int.add_emod_emod]
section
variable (os:List Int) (pw:List (List Int)) (cj:List (List (List Int)))
set_option maxHeartbeats 1000000 in
theorem impl_representative_ok (h:presOk os pw cj) (hc:Con (pc os pw cj) 0) (us:List V) (hl:us.length≤6) (hu:∀k,k<us.length→ldV os.length (us.getD k z0)<os.length∧T (pc os pw cj) (ldV os.length (us.getD k z0)) (us.getD k z0)∧us.getD k z0 (ldV os.length (us.getD k z0))=1) (a:V) (ha:T (pc os pw cj) 0 a):ACo Tryz.prog 112 [prsP os pw cj,vls os.length us,vi os.length a] (vi os.length (rdl (pc os pw cj) us a)):=by
 have hn6:=h.1.1
 have hv:=h.val
 have hg:=con_grp hv hc
 have hTV:=(times_ok os pw cj h 0 hc).1
 have hn0:(pc os pw cj).n=os.length:=rfl
 have hdl:(dpv os.length us).length=us.length:=dpv_len
 intro nx
 refine AC.intro' envOk Tryz.func112 rfl (by kernel_rfl) Tryz.ntmps112 Tryz.results112 ?_
 refine AW.sr envOk (fun N hN=> ?_)
 simp-dsimp-implicitDefEqProofs (maxSteps:=800000) (disch:=omega) only[go_sem,undef,prsP,w64,vi,vls,ints,gd_i,dpv_len,dpv_get]
 refine hN _ ?_
 try clear hN N
 refine AW.sr envOk (fun N hN=> ?_)
 simp-dsimp-implicitDefEqProofs (maxSteps:=800000) (disch:=omega) only[go_sem,undef,prsP,w64,vi,vls,ints,gd_i,dpv_len,dpv_get]
 refine(clone_cp a (by omega) _ _).mono ?_
 rintro m1 H1 r1 (⟨id1,rfl,g1,g2,rfl⟩|⟨h0,rfl,rfl⟩)
 ·skip
  try simp-dsimp-implicitDefEqProofs (maxSteps:=800000) (disch:=omega) only[go_sem,undef,prsP,w64,vi,vls,ints]
  refine hN _ ?_
  try clear hN N
  refine AW.seq (fun N1 hN1=> ?_)
  refine AW.sr envOk (fun N hN=> ?_)
  simp-dsimp-implicitDefEqProofs (maxSteps:=800000) (disch:=omega) only[go_sem,undef,prsP,w64,vi,vls,ints,gd_i,dpv_len,dpv_get]
  refine AC.pure (.of (impl_pivots_v os.length hn6 us (by omega) (fun k hk=>(hu k hk).1))) ?_
  try simp-dsimp-implicitDefEqProofs (maxSteps:=800000) (disch:=omega) only[go_sem,undef,prsP,w64,vi,vls,ints,gd_i,dpv_len,dpv_get]
  refine hN _ ?_
  try clear hN N
  refine AW.block ?_
  refine AW.loopN (α:=Nat×V) (fun x=>sl 34 [(0,prsP os pw cj),(1,vls os.length us),(7,.h id1 0 os.length),(13,ints (dpv os.length us)),(14,.i .i64 us.length),(15,.i .i64 x.1)]) (fun x=>upd noH id1 (some (ivs os.length x.2))) (fun x m=>(x.1≤us.length∧nx≤id1∧id1<m)∧T (pc os pw cj) 0 x.2∧rdl (pc os pw cj) (us.drop x.1) x.2=rdl (pc os pw cj) us a) (fun x=>us.length-x.1) ((0,a)) ?_ ?_ (fun _ _ h=>h) ?_
  ·exact⟨⟨Nat.zero_le _,by first|omega|(simp only;omega)|(dsimp only;omega),by first|omega|(simp only;omega)|(dsimp only;omega)⟩,ha,rfl⟩
  ·simp(disch:=omega) [wks,wkA,sl,prsP,ints,rows,cubes,vi,vls,dpv_len]
  ·skip
   rintro⟨k,e⟩ m ⟨⟨hk,hid1,hm⟩,he,hI⟩
   dsimp only at hk hid1 hm he hI ⊢
   simp only[prsP,vls]
   simp-dsimp-implicitDefEqProofs (maxSteps:=800000) (disch:=omega) only[go_sem,undef]
   refine AW.sr envOk (fun N hN=> ?_)
   simp-dsimp-implicitDefEqProofs (maxSteps:=800000) (disch:=omega) only[go_sem,undef,prsP,w64,vi,vls,ints,gd_i,dpv_len,dpv_get]
   refine hN _ ?_
   try clear hN N
   refine AW.seq (fun N2 hN2=> ?_)
   refine AW.cond rfl (fun h1=> ?_) (fun h1=> ?_)
   ·try simp only[cn]at h1
    obtain⟨w,hw⟩:∃w,us.getD k z0=w:=⟨_,rfl⟩
    obtain⟨d,hd⟩:∃d,ldV os.length w=d:=⟨_,rfl⟩
    obtain⟨w1,w2,w3⟩:=hu k (by omega)
    rw[hw,hd]at w1 w2 w3
    have hwd:ldV os.length (us.getD k z0)=d:=by rw[hw,hd]
    have hw0:=w2.mono hv (Nat.zero_le d)
    have her:=he.r d (Nat.zero_le d) (show d<os.length by omega)
    have huo:=pr4_bd (h.2.1 d w1)
    have hoe:(pc os pw cj).o d=os.getD d 0:=rfl
    have hdp:us.drop k=w::us.drop (k+1):=by
     rw[←hw,List.getD_eq_getElem?_getD,List.getElem?_eq_getElem (by omega)]
     exact List.drop_eq_getElem_cons (by omega)
    have hst:rdl (pc os pw cj) (us.drop k) e=rdl (pc os pw cj) (us.drop (k+1)) (rdw (pc os pw cj) e w):=by rw[hdp];rfl
    have hrdw:rdw (pc os pw cj) e w=if e d=0 then e else rdR (pc os pw cj) d w e:=by unfold rdw;rw[hn0,hd]
    have hend:=fun q hq=>rdR_end hv hc (e:=e) (show d<(pc os pw cj).n from w1) w2 w3 he (q:=q) hq
    refine AW.skip ?_
    simp only[thn,blk]
    refine hN2 _ ?_
    try clear hN2 N2
    refine AW.seq (fun N3 hN3=> ?_)
    refine AW.block ?_
    refine AW.sr envOk (fun N hN=> ?_)
    simp-dsimp-implicitDefEqProofs (maxSteps:=800000) (disch:=omega) only[go_sem,undef,prsP,w64,vi,vls,ints,gd_i,dpv_len,dpv_get,hwd]
    refine hN _ ?_
    try clear hN N
    refine AW.block ?_
    refine AW.loopN (α:=Nat×V) (fun x=>sl 34 [(0,prsP os pw cj),(1,vls os.length us),(7,.h id1 0 os.length),(8,.i .i64 k),(9,.i .i64 d),(13,ints (dpv os.length us)),(14,.i .i64 us.length),(15,.i .i64 k)]) (fun x=>upd noH id1 (some (ivs os.length x.2))) (fun x m=>(x.1≤(os.getD d 0-e d).toNat∧id1<m)∧(e d=0→x.1=0)∧x.2=M (pc os pw cj) 0 e (rep (M (pc os pw cj) 0) w x.1)) (fun x=>(os.getD d 0-e d).toNat-x.1) ((0,e)) ?_ ?_ (fun _ _ h=>h) ?_
    ·exact⟨⟨Nat.zero_le _,by first|omega|(simp only;omega)|(dsimp only;omega)⟩,fun _=>rfl,(hg.r1 he).symm⟩
    ·simp(disch:=omega) [wks,wkA,sl,prsP,ints,rows,cubes,vi,vls,dpv_len]
    ·skip
     rintro⟨q,e2⟩ m2 ⟨⟨hq,hm2⟩,hq0,he2⟩
     dsimp only at hq hm2 hq0 he2 ⊢
     simp only[prsP,vls]
     simp-dsimp-implicitDefEqProofs (maxSteps:=800000) (disch:=omega) only[go_sem,undef]
     have hq9:=hend q hq
     rw[←he2,hoe]at hq9
     have he2T:T (pc os pw cj) 0 e2:=by rw[he2];exact hg.cl he (hg.rep hw0 q)
     refine AW.seq (fun N4 hN4=> ?_)
     refine AW.sr envOk (fun N hN=> ?_)
     simp-dsimp-implicitDefEqProofs (maxSteps:=800000) (disch:=omega) only[go_sem,undef,prsP,w64,vi,vls,ints,gd_i,dpv_len,dpv_get]
     refine hN _ ?_
     try clear hN N
     refine AW.cond rfl (fun h2=> ?_) (fun h2=> ?_)
     ·try simp only[cn]at h2
      have hne:e d≠0:=fun h0=>by
       rw[hq0 h0,h0]at hq9
       simp at hq9
       exact h2 hq9
      have hlt:q+1≤(os.getD d 0-e d).toNat:=by
       apply Classical.byContradiction
       intro hn
       have:e d+(q:Int)=os.getD d 0:=by omega
       rw[this,Int.emod_self]at hq9
       exact h2 hq9
      refine AW.skip ?_
      simp only[thn,blk]
      refine hN4 _ ?_
      try clear hN4 N4
      refine AW.block ?_
      refine AW.regionL envOk ?_
      simp-dsimp-implicitDefEqProofs (maxSteps:=800000) (disch:=omega) only[go_sem,undef,prsP,w64,vi,vls,ints,gd_i,dpv_len,dpv_get,vls_get,hw]
      refine(hTV _ _ id1 e2 w (upd_same _ _ _) he2T hw0).mono2 ?_
      rintro m3 H3 r3 hm3 rfl
      rw[app_M hv he2T hw0]
      try simp-dsimp-implicitDefEqProofs (maxSteps:=800000) (disch:=omega) only[go_sem,undef,prsP,w64,vi,vls,ints,gd_i,dpv_len,dpv_get]
      refine⟨(q+1,M (pc os pw cj) 0 e2 w),?_,fun _ _ h=>h,?_,?_⟩
      ·simp(disch:=omega) [wks,wkA,sl,prsP,w64,ints,rows,cubes,vi,vls]<;>omega
      ·have g3:M (pc os pw cj) 0 e2 w=M (pc os pw cj) 0 e (rep (M (pc os pw cj) 0) w (q+1)):=by rw[he2,hg.ac he (hg.rep hw0 q) hw0];rfl
       first|exact g3|exact⟨fun h0=>absurd h0 hne,g3⟩|exact⟨⟨by first|omega|(simp only;omega)|(dsimp only;omega),by first|omega|(simp only;omega)|(dsimp only;omega)⟩,fun h0=>absurd h0 hne,g3⟩|exact⟨by first|omega|(simp only;omega)|(dsimp only;omega),fun h0=>absurd h0 hne,g3⟩|exact⟨by first|omega|(simp only;omega)|(dsimp only;omega),g3⟩
      ·first|omega|(simp only;omega)
     ·try simp only[cn]at h2
      refine AW.exit ?_
      simp only[thn,blk,if_true]
      refine hN3 _ ?_
      try clear hN3 N3
      refine AW.regionL envOk ?_
      simp-dsimp-implicitDefEqProofs (maxSteps:=800000) (disch:=omega) only[go_sem,undef,prsP,w64,vi,vls,ints,gd_i,dpv_len,dpv_get]
      refine⟨(k+1,e2),?_,fun _ _ h=>h,?_,?_⟩
      ·simp(disch:=omega) [wks,wkA,sl,prsP,w64,ints,rows,cubes,vi,vls]<;>omega
      ·have g3:rdl (pc os pw cj) (us.drop (k+1)) e2=rdl (pc os pw cj) us a:=by
        rw[←hI,hst,hrdw]
        congr 1
        by_cases h0:e d=0
        ·rw[if_pos h0,he2,hq0 h0];exact hg.r1 he
        ·rw[if_neg h0,he2]
         unfold rdR
         rw[hoe]
         have hz:e2 d=0:=h2
         rw[hz]at hq9
         have hqq:q=(os.getD d 0-e d).toNat:=by
          apply Classical.byContradiction
          intro hn
          have hlt:e d+(q:Int)<os.getD d 0:=by omega
          rw[Int.emod_eq_of_lt (by omega) hlt]at hq9
          omega
         rw[hqq]
       first|exact⟨⟨by first|omega|(simp only;omega)|(dsimp only;omega),by first|omega|(simp only;omega)|(dsimp only;omega),by first|omega|(simp only;omega)|(dsimp only;omega)⟩,he2T,g3⟩|exact⟨by first|omega|(simp only;omega)|(dsimp only;omega),he2T,g3⟩|exact⟨he2T,g3⟩
      ·first|omega|(simp only;omega)
   ·try simp only[cn]at h1
    refine AW.exit ?_
    simp only[thn,blk,if_true]
    refine hN1 _ ?_
    try clear hN1 N1
    refine AW.sr envOk (fun N hN=> ?_)
    simp-dsimp-implicitDefEqProofs (maxSteps:=800000) (disch:=omega) only[go_sem,undef,prsP,w64,vi,vls,ints,gd_i,dpv_len,dpv_get]
    refine hN _ ?_
    try clear hN N
    refine AW.ret ?_
    simp-dsimp-implicitDefEqProofs (maxSteps:=800000) (disch:=omega) only[go_sem,undef]
    rw[show k=us.length by omega,List.drop_length]at hI
    have hI2:e=rdl (pc os pw cj) us a:=hI
    rw[←hI2]
    exact Own.vi (upd_same _ _ _) (by omega) (by omega)
 ·skip
  try simp-dsimp-implicitDefEqProofs (maxSteps:=800000) (disch:=omega) only[go_sem,undef,prsP,w64,vi,vls,ints]
  refine hN _ ?_
  try clear hN N
  refine AW.seq (fun N5 hN5=> ?_)
  refine AW.sr envOk (fun N hN=> ?_)
  simp-dsimp-implicitDefEqProofs (maxSteps:=800000) (disch:=omega) only[go_sem,undef,prsP,w64,vi,vls,ints,gd_i,dpv_len,dpv_get]
  refine AC.pure (.of (impl_pivots_v os.length hn6 us (by omega) (fun k hk=>(hu k hk).1))) ?_
  try simp-dsimp-implicitDefEqProofs (maxSteps:=800000) (disch:=omega) only[go_sem,undef,prsP,w64,vi,vls,ints,gd_i,dpv_len,dpv_get]
  refine hN _ ?_
  try clear hN N
  refine AW.block ?_
  refine AW.loopN (α:=Nat) (fun x=>sl 34 [(0,prsP os pw cj),(1,vls os.length us),(7,.v 0 []),(13,ints (dpv os.length us)),(14,.i .i64 us.length),(15,.i .i64 0)]) (fun _=>noH) (fun x m=>True) (fun x=>0) (0) ?_ ?_ (fun _ _ h=>h) ?_
  ·trivial
  ·simp(disch:=omega) [wks,wkA,sl,prsP,ints,rows,cubes,vi,vls,dpv_len]
  ·skip
   rintro k m hk
   simp only[prsP,vls]
   simp-dsimp-implicitDefEqProofs (maxSteps:=800000) (disch:=omega) only[go_sem,undef]
   have hus:us.length=0:=by
    apply Classical.byContradiction
    intro hn
    have:=(hu 0 (by omega)).1
    omega
   refine AW.sr envOk (fun N hN=> ?_)
   simp-dsimp-implicitDefEqProofs (maxSteps:=800000) (disch:=omega) only[go_sem,undef,prsP,w64,vi,vls,ints,gd_i,dpv_len,dpv_get]
   refine hN _ ?_
   try clear hN N
   refine AW.seq (fun N6 hN6=> ?_)
   refine AW.cond rfl (fun h3=> ?_) (fun h3=> ?_)
   ·try simp only[cn]at h3
    exfalso;omega
   ·try simp only[cn]at h3
    refine AW.exit ?_
    simp only[thn,blk,if_true]
    refine hN5 _ ?_
    try clear hN5 N5
    refine AW.sr envOk (fun N hN=> ?_)
    simp-dsimp-implicitDefEqProofs (maxSteps:=800000) (disch:=omega) only[go_sem,undef,prsP,w64,vi,vls,ints,gd_i,dpv_len,dpv_get]
    refine hN _ ?_
    try clear hN N
    refine AW.ret ?_
    simp-dsimp-implicitDefEqProofs (maxSteps:=800000) (disch:=omega) only[go_sem,undef]
    exact Own.vi0 h0
theorem dnR_ok (h:presOk os pw cj) (hc:Con (pc os pw cj) 0) {t:Nat→Option V} (hG:tbG (pc os pw cj) t) (j:Nat) (hj:j≤os.length):∀d z,dnG (rdR (pc os pw cj)) t os.length j d=some z→os.length-j≤d∧d<os.length∧T (pc os pw cj) d z∧z d=1:=by
  have hv:=h.val
  have l:=lvl hv hc
  have:=(dnG_ok hv hc (rdR_rk2 hv hc) (l.sbg 0) (t:=t) (fun d y hy=>⟨(hG d y hy).1,l.le (Nat.zero_le d) (hG d y hy).2.1,(hG d y hy).2⟩) j hj).1
  intro d z hz
  obtain⟨a1,a2,a3,a4,a5,_⟩:=this d z hz
  exact⟨a1,a2,a4,a5⟩
theorem outR_ok (h:presOk os pw cj) (hc:Con (pc os pw cj) 0) {t:Nat→Option V} (hG:tbG (pc os pw cj) t) (j:Nat) (hj:j≤os.length):∀k,k<(outS (dnG (rdR (pc os pw cj)) t os.length j) os.length).length→ldV os.length ((outS (dnG (rdR (pc os pw cj)) t os.length j) os.length).getD k z0)<os.length∧T (pc os pw cj) (ldV os.length ((outS (dnG (rdR (pc os pw cj)) t os.length j) os.length).getD k z0)) ((outS (dnG (rdR (pc os pw cj)) t os.length j) os.length).getD k z0)∧(outS (dnG (rdR (pc os pw cj)) t os.length j) os.length).getD k z0 (ldV os.length ((outS (dnG (rdR (pc os pw cj)) t os.length j) os.length).getD k z0))=1:=by
  intro k hk
  obtain⟨z,hz⟩:∃z,(outS (dnG (rdR (pc os pw cj)) t os.length j) os.length).getD k z0=z:=⟨_,rfl⟩
  have hm:z∈outS (dnG (rdR (pc os pw cj)) t os.length j) os.length:=by rw[←hz,List.getD_eq_getElem?_getD,List.getElem?_eq_getElem hk];exact List.getElem_mem _
  obtain⟨d,hd⟩:=outS_mem hm
  obtain⟨a1,a2,a3,a4⟩:=dnR_ok os pw cj h hc hG j hj d z hd
  rw[hz,ldV_eq a2 a3 a4]
  exact⟨a2,a3,a4⟩
end
end Go.Proofs.YtnlfbimjcabgiaaGreat
namespace Go.Proofs.YtnlfbimjcabgiaaGreat
def Cnl (P:Pc) (S:V→Prop) (l:List V):Prop:=∃dn,Can2 P S dn∧l=outS dn P.n
def GL (P:Pc) (us:List V):V→Prop:=Gen (T P 0) (M P 0) (fun v=>v∈us)
theorem GL.le {P:Pc} {us:List V} {A:V→Prop} (hA:Sbg (T P 0) (M P 0) A) (h:∀u∈us,A u) {x:V} (hx:GL P us x):A x:=hx A hA h
theorem GL.of {P:Pc} {us:List V} {u:V} (h:u∈us):GL P us u:=fun A hA hu=>hu u h
theorem outS_memd {dn:Nat→Option V} {n:Nat} {y:V}:y∈outS dn n↔∃d,d<n∧dn d=some y:=by
  unfold outS
  rw[List.mem_filterMap]
  exact⟨fun ⟨d,h1,h2⟩=>⟨d,List.mem_range.1 h1,h2⟩,fun ⟨d,h1,h2⟩=>⟨d,List.mem_range.2 h1,h2⟩⟩
theorem outS_cmp {dn dn':Nat→Option V} {n:Nat} (h:∀d,d<n→dn d≠none→dn' d≠none):∀k,k≤n→(outS dn k).length≤(outS dn' k).length∧((outS dn k).length=(outS dn' k).length→∀d,d<k→dn' d≠none→dn d≠none):=by
  intro k
  induction k with
  |zero=>intro _;exact⟨Nat.le_refl _,fun _ d hd=>by omega⟩
  | succ k ih=>
    intro hk
    obtain⟨i1,i2⟩:=ih (by omega)
    have hkk:=h k (by omega)
    cases h1:dn k with
    | none=>
      rw[outS_none h1]
      cases h2:dn' k with
      | none=>
        rw[outS_none h2]
        refine⟨i1,fun e d hd=> ?_⟩
        rcases Nat.lt_or_ge d k with q|q
        · exact i2 e d q
        · obtain rfl:d=k:=by omega
          rw[h2];exact fun q=>absurd rfl q
      | some z=>
        rw[outS_some h2,List.length_append]
        exact⟨by omega,fun e=>by simp at e;omega⟩
    | some y=>
      rw[h1]at hkk
      cases h2:dn' k with
      |none=>exact absurd h2 (hkk (by simp))
      | some z=>
        rw[outS_some h1,outS_some h2,List.length_append,List.length_append]
        refine⟨by simp;omega,fun e d hd=> ?_⟩
        rcases Nat.lt_or_ge d k with q|q
        · exact i2 (by simp at e;omega) d q
        · obtain rfl:d=k:=by omega
          rw[h1];exact fun _=>by simp
section
variable {P:Pc} (hv:Val P) (hc:Con P 0)
include hv hc
theorem T_sbg:Sbg (T P 0) (M P 0) (T P 0):=(lvl hv hc).sbg 0
theorem sb_all {S A:V→Prop} (hS:Sbg (T P 0) (M P 0) S) (hA:Sbg (T P 0) (M P 0) A) (key:∀d,d<P.n→∀x,S x→T P d x→x d≠0→∃z,A z∧S z∧T P d z∧z d=1):∀x,S x→A x:=by
  have l:=lvl hv hc
  have go:∀f,f≤P.n→∀x,S x→T P (P.n-f) x→A x:=by
    intro f
    induction f with
    |zero=>intro _ x _ hx;rw[T_top x hx];exact hA.e
    | succ f ih=>
      intro hf x hx hT
      have e:P.n-f=P.n-(f+1)+1:=by omega
      by_cases h0:x (P.n-(f+1))=0
      · exact ih (by omega) x hx (by rw[e];exact l.up hT h0)
      · obtain⟨z,z1,z2,z3,z4⟩:=key _ (by omega) x hx hT h0
        obtain⟨u,u1,u2,u3,u4⟩:=rdR_rk2 hv hc _ z x (by omega) z3 z4 (hS.n hx)
        have hm:S (M P 0 x u):=hS.mu hx (u1 S hS z2)
        have hmT:T P (P.n-(f+1)) (M P 0 x u):=(l.g _).cl hT u2
        have hz:M P 0 x u (P.n-(f+1))=0:=by rw[l.lead (by omega) hT u2,u4]
        have:=ih (by omega) _ hm (by rw[e];exact l.up hmT hz)
        exact hA.r (l.g 0) (u1 A hA z1) (hS.n hx) this
  intro x hx
  exact go P.n (Nat.le_refl _) x hx (by rw[Nat.sub_self];exact hS.n hx)
theorem Cnl.uniq {S:V→Prop} {l l':List V} (hS:Sbg (T P 0) (M P 0) S) (h:Cnl P S l) (h':Cnl P S l'):l=l':=by
  obtain⟨dn,h1,rfl⟩:=h
  obtain⟨dn',h2,rfl⟩:=h'
  exact outS_congr fun d hd=>Can2.uniq hv hc hS h1 h2 hd
theorem Cnl.gen {S:V→Prop} {l:List V} (hS:Sbg (T P 0) (M P 0) S) (h:Cnl P S l):S=GL P l:=by
  obtain⟨dn,h1,rfl⟩:=h
  funext x
  refine propext ⟨fun hx A hA hu=> ?_,fun hx=>hx S hS (fun u hu=> ?_)⟩
  · refine sb_all hv hc hS hA (fun d hd x hx hT h0=> ?_) x hx
    cases hz:dn d with
    |none=>exact absurd ⟨x,hx,hT,h0⟩ (h1.no d hd hz)
    | some z=>
      obtain⟨_,a1,a2,a3,_⟩:=h1.el d z hz
      exact⟨z,hu z (outS_memd.2 ⟨d,hd,hz⟩),a1,a2,a3⟩
  · obtain⟨d,hd,hz⟩:=outS_memd.1 hu
    exact(h1.el d u hz).2.1
omit hv hc in
theorem Cnl.len {S:V→Prop} {l:List V} (h:Cnl P S l):l.length≤P.n:=by
  obtain⟨dn,h1,rfl⟩:=h;exact outS_len
omit hv hc in
theorem Cnl.S {S:V→Prop} {l:List V} (h:Cnl P S l) {u:V} (hu:u∈l):S u:=by
  obtain⟨dn,h1,rfl⟩:=h
  obtain⟨d,hd,hz⟩:=outS_memd.1 hu
  exact(h1.el d u hz).2.1
omit hv hc in
theorem Cnl.at {S:V→Prop} {l:List V} (h:Cnl P S l) {u:V} (hu:u∈l):ldV P.n u<P.n∧T P (ldV P.n u) u∧u (ldV P.n u)=1:=by
  obtain⟨dn,h1,rfl⟩:=h
  obtain⟨d,hd,hz⟩:=outS_memd.1 hu
  obtain⟨_,a1,a2,a3,_⟩:=h1.el d u hz
  rw[ldV_eq (P:=P) hd a2 a3]
  exact⟨hd,a2,a3⟩
theorem Cnl.cmp {S S':V→Prop} {l l':List V} (hS:Sbg (T P 0) (M P 0) S) (hS':Sbg (T P 0) (M P 0) S') (h:Cnl P S l) (h':Cnl P S' l') (hs:∀x,S x→S' x):l.length≤l'.length∧(l.length=l'.length→S=S'):=by
  obtain⟨dn,h1,rfl⟩:=h
  obtain⟨dn',h2,rfl⟩:=h'
  have hd:∀d,d<P.n→dn d≠none→dn' d≠none:=fun d hd hz hz'=>by
    cases hq:dn d with
    |none=>exact hz hq
    | some z=>
      obtain⟨_,a1,a2,a3,_⟩:=h1.el d z hq
      exact h2.no d hd hz' ⟨z,hs z a1,a2,by rw[a3];omega⟩
  obtain⟨c1,c2⟩:=outS_cmp hd P.n (Nat.le_refl _)
  refine⟨c1,fun e=>funext fun x=>propext ⟨hs x,fun hx=> ?_⟩⟩
  refine sb_all hv hc hS' hS (fun d hd x hx hT h0=> ?_) x hx
  have hd':dn' d≠none:=fun hz=>h2.no d hd hz ⟨x,hx,hT,h0⟩
  have hdd:=c2 e d hd hd'
  cases hz:dn d with
  |none=>exact absurd hz hdd
  | some z=>
    obtain⟨_,a1,a2,a3,_⟩:=h1.el d z hz
    exact⟨z,a1,hs z a1,a2,a3⟩
theorem rep_inv {x:V} (hx:T P 0 x):∃k,M P 0 (rep (M P 0) x k) x=z0:=by
  have l:=lvl hv hc
  have g:=l.g 0
  have go :∀f,f≤P.n→∀x,T P (P.n-f) x→∃k,rep (M P 0) x (k+1)=z0:=by
    intro f
    induction f with
    |zero=>intro _ x hx;exact⟨0,by rw[T_top x hx];exact g.rep_one g.e0⟩
    | succ f ih=>
      intro hf x hx
      obtain⟨q1,q2⟩:=rep_lead hv (show P.n-(f+1)<P.n by omega) hx (P.o (P.n-(f+1))).toNat
      have ho:=hv.o (P.n-(f+1)) (by omega)
      have hz:rep (M P 0) x (P.o (P.n-(f+1))).toNat (P.n-(f+1))=0:=by
        rw[q2,Int.toNat_of_nonneg (by omega),Int.mul_emod_right]
      obtain⟨k,hk⟩:=ih (by omega) _ (by rw[show P.n-f=P.n-(f+1)+1 by omega];exact l.up q1 hz)
      have hx0:=hx.mono hv (Nat.zero_le _)
      have hm:∀j,rep (M P 0) (rep (M P 0) x (P.o (P.n-(f+1))).toNat) j=rep (M P 0) x ((P.o (P.n-(f+1))).toNat*j):=by
        intro j
        induction j with
        |zero=>rfl
        | succ j ihj=>
          show M P 0 (rep (M P 0) (rep (M P 0) x (P.o (P.n-(f+1))).toNat) j) _=_
          rw[ihj,←g.rep_add hx0];rfl
      rw[hm]at hk
      obtain⟨w,hw⟩:∃w,(P.o (P.n-(f+1))).toNat*(k+1)=w+1:=by
        have:1*1≤(P.o (P.n-(f+1))).toNat*(k+1):=Nat.mul_le_mul (by omega) (by omega)
        exact⟨_,(Nat.sub_add_cancel (by omega)).symm⟩
      exact⟨w,by rw[←hw];exact hk⟩
  obtain⟨k,hk⟩:=go P.n (Nat.le_refl _) x (by rw[Nat.sub_self];exact hx)
  exact⟨k,hk⟩
end
noncomputable def cjE (P:Pc) (a b:V):V:=M P 0 (inv P 0 b) (M P 0 a b)
def NG (P:Pc) (us bs:List V) (x:V):Prop:=∀A,Sbg (T P 0) (M P 0) A→(∀u∈us,A u)→(∀a b,A a→b∈bs→A (cjE P a b))→A x
def CjB (P:Pc) (S:V→Prop) (b:V):Prop:=∀a,S a→S (cjE P a b)
section
variable {P:Pc} (hv:Val P) (hc:Con P 0)
include hv hc
theorem cjE_T {a b:V} (ha:T P 0 a) (hb:T P 0 b):T P 0 (cjE P a b)∧M P 0 b (cjE P a b)=M P 0 a b:=by
  have g:=con_grp hv hc
  obtain⟨i1,i2⟩:=inv_T g hb
  have h1:=g.cl i1 (g.cl ha hb)
  exact⟨h1,((conj_iff g ha hb h1).1 rfl).symm⟩
theorem cjE_eq {a b c:V} (ha:T P 0 a) (hb:T P 0 b) (hcT:T P 0 c) (h:M P 0 b c=M P 0 a b):cjE P a b=c:=by
  have g:=con_grp hv hc
  exact(conj_iff g ha hb hcT).2 h.symm
theorem cjE_mul {a a' b:V} (ha:T P 0 a) (ha':T P 0 a') (hb:T P 0 b):cjE P (M P 0 a a') b=M P 0 (cjE P a b) (cjE P a' b):=by
  have g:=con_grp hv hc
  obtain⟨c1,c2⟩:=cjE_T hv hc ha hb
  obtain⟨d1,d2⟩:=cjE_T hv hc ha' hb
  refine cjE_eq hv hc (g.cl ha ha') hb (g.cl c1 d1) ?_
  rw[←g.ac hb c1 d1,c2,g.ac ha hb d1,d2,g.ac ha ha' hb]
theorem cjE_e {b:V} (hb:T P 0 b):cjE P z0 b=z0:=by
  have g:=con_grp hv hc
  exact cjE_eq hv hc g.e0 hb g.e0 (by rw[g.r1 hb,g.l1 hb])
theorem cjE_id {a:V} (ha:T P 0 a):cjE P a z0=a:=by
  have g:=con_grp hv hc
  exact cjE_eq hv hc ha g.e0 ha (by rw[g.r1 ha,g.l1 ha])
theorem cjE_cj {a b c:V} (ha:T P 0 a) (hb:T P 0 b) (hcT:T P 0 c):cjE P a (M P 0 b c)=cjE P (cjE P a b) c:=by
  have g:=con_grp hv hc
  obtain⟨c1,c2⟩:=cjE_T hv hc ha hb
  obtain⟨d1,d2⟩:=cjE_T hv hc c1 hcT
  refine cjE_eq hv hc ha (g.cl hb hcT) d1 ?_
  rw[g.ac hb hcT d1,d2,←g.ac hb c1 hcT,c2,g.ac ha hb hcT]
theorem cj_sbg {S:V→Prop} (hS:Sbg (T P 0) (M P 0) S) {b:V} (hb:T P 0 b):Sbg (T P 0) (M P 0) (fun a=>T P 0 a∧S (cjE P a b)):=by
  have g:=con_grp hv hc
  refine⟨fun h=>h.1,⟨g.e0,by rw[cjE_e hv hc hb];exact hS.e⟩,fun ⟨h1,h2⟩ ⟨h3,h4⟩=>⟨g.cl h1 h3,by rw[cjE_mul hv hc h1 h3 hb];exact hS.mu h2 h4⟩,fun {a a'} ⟨h1,h2⟩ h3 h4=>⟨h3,?_⟩⟩
  refine hS.iv h2 (cjE_T hv hc h3 hb).1 ?_
  rw[←cjE_mul hv hc h1 h3 hb,h4,cjE_e hv hc hb]
theorem CjB.of {S:V→Prop} (hS:Sbg (T P 0) (M P 0) S) {us:List V} (hu:S=GL P us) {b:V} (hb:T P 0 b) (h:∀u∈us,S (cjE P u b)):CjB P S b:=by
  intro a ha
  have ha':GL P us a:=by rw[←hu];exact ha
  exact(ha' _ (cj_sbg hv hc hS hb) (fun u hu2=>⟨hS.n (by rw[hu];exact GL.of hu2),h u hu2⟩)).2
theorem CjB.sbg {S:V→Prop} (hS:Sbg (T P 0) (M P 0) S):Sbg (T P 0) (M P 0) (fun b=>T P 0 b∧CjB P S b):=by
  have g:=con_grp hv hc
  have mu:∀{b c:V},T P 0 b∧CjB P S b→T P 0 c∧CjB P S c→T P 0 (M P 0 b c)∧CjB P S (M P 0 b c):=fun {b c} ⟨h1,h2⟩ ⟨h3,h4⟩=>⟨g.cl h1 h3,fun a ha=>by rw[cjE_cj hv hc (hS.n ha) h1 h3];exact h4 _ (h2 a ha)⟩
  have e:T P 0 z0∧CjB P S z0:=⟨g.e0,fun a ha=>by rw[cjE_id hv hc (hS.n ha)];exact ha⟩
  refine⟨fun h=>h.1,e,mu,fun {b b'} h h3 h4=> ?_⟩
  obtain⟨k,hk⟩:=rep_inv hv hc h.1
  have hr:∀j,T P 0 (rep (M P 0) b j)∧CjB P S (rep (M P 0) b j):=by
    intro j
    induction j with
    |zero=>exact e
    |succ j ih=>exact mu ih h
  have:b'=rep (M P 0) b k:=by
    obtain⟨w,w1,w2,w3⟩:=g.iv h.1
    have e1:b'=w:=g.lc h.1 h3 w1 (by rw[h4,w3])
    rw[e1]
    exact g.rc h.1 w1 (g.rep h.1 k) (by rw[w2,hk])
  rw[this]
  exact hr k
theorem CjB.all {S:V→Prop} (hS:Sbg (T P 0) (M P 0) S) {bs:List V} (hb:∀b∈bs,T P 0 b∧CjB P S b) {b:V} (h:GL P bs b):CjB P S b:=(h _ (CjB.sbg hv hc hS) hb).2
theorem NG.sbg {us bs:List V} (hu:∀u∈us,T P 0 u) (hb:∀b∈bs,T P 0 b):Sbg (T P 0) (M P 0) (NG P us bs):=by
  refine⟨fun h=>h _ (T_sbg hv hc) hu (fun a b ha hbb=>(cjE_T hv hc ha (hb b hbb)).1),fun A hA _ _=>hA.e,fun h1 h2 A hA q1 q2=>hA.mu (h1 A hA q1 q2) (h2 A hA q1 q2),fun h1 h2 h3 A hA q1 q2=>hA.iv (h1 A hA q1 q2) h2 h3⟩
omit hv hc in
theorem NG.cj {us bs:List V} {b:V} (hb:b∈bs):CjB P (NG P us bs) b:=fun a ha A hA q1 q2=>q2 a b (ha A hA q1 q2) hb
omit hv hc in
theorem NG.of {us bs:List V} {u:V} (h:u∈us):NG P us bs u:=fun A hA q1 _=>q1 u h
omit hv hc in
theorem NG.eq {us bs:List V} {S:V→Prop} (hS:Sbg (T P 0) (M P 0) S) (h1:∀u∈us,S u) (h2:∀b∈bs,CjB P S b) (h3:∀x,S x→NG P us bs x):S=NG P us bs:=
  funext fun x=>propext ⟨h3 x,fun h=>h S hS h1 (fun a b ha hb=>h2 b hb a ha)⟩
omit hv hc in
theorem NG.same {us us' bs:List V} (h1:∀u∈us,NG P us' bs u) (h2:∀u∈us',NG P us bs u):NG P us bs=NG P us' bs:=
  funext fun x=>propext ⟨fun h A hA q1 q2=>h A hA (fun u hu=>h1 u hu A hA q1 q2) q2,fun h A hA q1 q2=>h A hA (fun u hu=>h2 u hu A hA q1 q2) q2⟩
end
noncomputable def cjL (P:Pc) (us bs:List V):List V:=bs.flatMap fun b=>us.map fun a=>cjE P a b
theorem cjL_mem {P:Pc} {us bs:List V} {x:V}:x∈cjL P us bs↔∃b∈bs,∃a∈us,cjE P a b=x:=by
  unfold cjL
  rw[List.mem_flatMap]
  exact⟨fun ⟨b,h1,h2⟩=>⟨b,h1,by obtain⟨a,h3,h4⟩:=List.mem_map.1 h2;exact⟨a,h3,h4⟩⟩,fun ⟨b,h1,a,h3,h4⟩=>⟨b,h1,List.mem_map.2 ⟨a,h3,h4⟩⟩⟩
noncomputable def stF (P:Pc) (bs:List V):Nat→List V→List V
  |0,us=>us
  |f+1,us=>if (cloU P (us++cjL P us bs)).length=us.length then cloU P (us++cjL P us bs)else stF P bs f (cloU P (us++cjL P us bs))
section
variable {P:Pc} (hv:Val P) (hc:Con P 0) (hp:∀d,d<P.n→pr4 (P.o d))
include hv hc hp
theorem GL_sbg {us:List V} (hu:∀x∈us,T P 0 x):Sbg (T P 0) (M P 0) (GL P us):=gen_sbg hv hc hp hu
theorem clo_cn {us:List V} (hu:∀x∈us,T P 0 x):Cnl P (GL P us) (cloU P us):=⟨_,dnS_can hv hc hp hu,rfl⟩
theorem clo_T {us:List V} (hu:∀x∈us,T P 0 x):∀x∈cloU P us,T P 0 x:=fun x hx=>(GL_sbg hv hc hp hu).n ((clo_cn hv hc hp hu).S hx)
theorem stF_cn {bs:List V} (hb:∀b∈bs,T P 0 b):∀f us,(∀x∈us,T P 0 x)→Cnl P (GL P us) us→P.n<us.length+f→Cnl P (NG P us bs) (stF P bs f us):=by
  intro f
  induction f with
  |zero=>intro us hu h hl;have:=h.len;omega
  | succ f ih=>
    intro us hu h hl
    rw[stF]
    have hL:∀x∈us++cjL P us bs,T P 0 x:=fun x hx=>by
      rcases List.mem_append.1 hx with q|q
      · exact hu x q
      · obtain⟨b,h1,a,h2,rfl⟩:=cjL_mem.1 q
        exact(cjE_T hv hc (hu a h2) (hb b h1)).1
    have cn:=clo_cn hv hc hp hL
    have s1:=GL_sbg hv hc hp hu
    have s2:=GL_sbg hv hc hp hL
    have hsub:∀x,GL P us x→GL P (us++cjL P us bs) x:=fun x hx=>hx.le s2 (fun u hu=>GL.of (List.mem_append.2 (.inl hu)))
    obtain⟨c1,c2⟩:=Cnl.cmp hv hc s1 s2 h cn hsub
    have hin:∀u∈us++cjL P us bs,NG P us bs u:=fun u hq=>by
      rcases List.mem_append.1 hq with q|q
      · exact NG.of q
      · obtain⟨b,h1,a,h2,rfl⟩:=cjL_mem.1 q
        exact NG.cj h1 a (NG.of h2)
    split
    · rename_i he
      have e:=c2 he.symm
      have:GL P us=NG P us bs:=by
        refine NG.eq s1 (fun u hu=>GL.of hu) (fun b hbb=> ?_) (fun x hx=>hx.le (NG.sbg hv hc hu hb) (fun u hu=>NG.of hu))
        refine CjB.of hv hc s1 rfl (hb b hbb) (fun u hu2=> ?_)
        rw[e]
        exact GL.of (List.mem_append.2 (.inr (cjL_mem.2 ⟨b,hbb,u,hu2,rfl⟩)))
      rw[←this,e]
      exact cn
    · rename_i he
      have hT:=clo_T hv hc hp hL
      have e:=Cnl.gen hv hc s2 cn
      have cn2:=cn
      rw[e]at cn2
      have:=ih _ hT cn2 (by omega)
      rw[NG.same (us:=us) (us':=cloU P (us++cjL P us bs)) (bs:=bs)]
      · exact this
      · intro u hu2
        have h3:GL P (cloU P (us++cjL P us bs)) u:=by rw[←e];exact GL.of (List.mem_append.2 (.inl hu2))
        exact h3.le (NG.sbg hv hc hT hb) (fun v hv2=>NG.of hv2)
      · intro u hu2
        exact(cn.S hu2).le (NG.sbg hv hc hu hb) hin
end
end Go.Proofs.YtnlfbimjcabgiaaGreat
