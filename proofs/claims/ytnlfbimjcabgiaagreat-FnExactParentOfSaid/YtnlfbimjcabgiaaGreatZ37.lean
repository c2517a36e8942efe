import Derived.Test.YtnlfbimjcabgiaaGreatZ35
set_option linter.unusedVariables false
set_option linter.unusedSimpArgs false
namespace Go.Proofs.YtnlfbimjcabgiaaGreat
open Nat (reduceAdd reduceSub reduceGT reduceEqDiff reduceMul)
theorem le_updF {H G:HP} {nx b:Nat} {d:Option (List AV)} (hfr:∀i,nx≤i→H i=none) (hG:∀i,i<nx→G i=H i):Le (upd H b d) (upd G b d):=by
  intro i e hi
  by_cases hb:i=b
  · subst hb;rw[upd_same]at hi ⊢;exact hi
  · rw[upd_ne _ _ hb]at hi ⊢
    by_cases hn:i<nx
    · rw[hG i hn];exact hi
    · rw[hfr i (by omega)]at hi;cases hi
theorem le_new {H:HP} {id:Nat} {c:Option (List AV)} (h:H id=none):Le H (upd H id c):=by
  intro i e hi
  by_cases hb:i=id
  · subst hb;rw[h]at hi;cases hi
  · rw[upd_ne _ _ hb];exact hi
def OwZ (n nx nx':Nat) (H H':HP) (r:AV) (X:List V):Prop:=OwS n nx nx' H H' r X∨(X=[]∧r= .nl∧H'=H)
theorem OwZ.vw {n nx nx':Nat} {H H':HP} {r:AV} {X:List V} (h:OwZ n nx nx' H H' r X):Vw H' r (vls n X):=by
  rcases h with h|⟨rfl,rfl,rfl⟩
  · exact h.vw
  · exact .nl
theorem AC.frL {P:Program} {f:FuncId} {nx n:Nat} {H:HP} {xs:List AV} {X:List V} (h:AC P f nx H xs (fun nx' H' r=>OwZ n nx nx' H H' r X)):AC P f nx H xs (fun _ H' r=>r=vls n X∧H'=H):=by
  refine AC.hfr h.1 fun hfr=>⟨h.1,fun L Av w us a b c=>(h.2 L Av w us a b c).mono fun e w' ⟨u,r,L',nx',H',h1,h2,h3,h4,h5,h6,h7,h8⟩=> ?_⟩
  rcases h2 with ⟨id,rfl,i1,i2,rfl⟩|⟨rfl,rfl,rfl⟩
  · have g1:FzH (upd H id (some (X.map (vi n)))) (upd (upd H id (some (X.map (vi n)))) id none):=FzH.del
    have g2:Fz (upd H id (some (X.map (vi n)))) (upd (upd H id (some (X.map (vi n)))) id none) (.h id 0 X.length) (vls n X):=Fz.blk (upd_same _ _ _) (by simp)
    have e2:upd (upd H id (some (X.map (vi n)))) id none=H:=by
      funext i
      by_cases q:i=id
      · subst q;rw[upd_same,hfr i i1]
      · rw[upd_ne _ _ q,upd_ne _ _ q]
    rw[e2]at g1 g2
    exact⟨u,_,L',nx',H,h1,⟨rfl,rfl⟩,h3,h4,h5,h6.fz g1,⟨h7.le,h7.os,h7.tape,h7.output,h7.size,h7.keep,fun b hb hl=>h7.old b hb (g1.lb hl)⟩,g2.sound h6 g1 h8⟩
  · have g1:FzH H' H':=fun q cs' hq=>⟨cs',hq,rfl,fun k x y h1 h2=>by rw[h1]at h2;cases h2;exact .refl _⟩
    exact⟨u,_,L',nx',H',h1,⟨rfl,rfl⟩,h3,h4,h5,h6,h7,(Fz.nl:Fz H' H' .nl (.v 0 [])).sound h6 g1 h8⟩
theorem one_nilT:(∀z∈([]:List AV),one z=true)=True:=eq_true fun z hz=>by cases hz
theorem one_viT {n:Nat} {us:List V}:(∀z∈List.map (vi n) us,one z=true)=True:=eq_true fun z hz=>by
  obtain⟨a,_,rfl⟩:=List.mem_map.1 hz;rfl
theorem ci1 {d:Nat}:((d+1:Nat):Int)-1=(d:Int):=by omega
section
variable (os:List Int) (pw:List (List Int)) (cj:List (List (List Int)))
theorem impl_newSequence_ok (hn:os.length≤1000) (nx:Nat) (H:HP):AC Tryz.prog 65 nx H [prsP os pw cj] (fun nx' H' r=>∃ids id2,r= .q ids 0∧(nx≤id2∧nx≤ids∧ids<nx'∧id2<nx'∧ids≠id2)∧H'=upd (upd H id2 (some (tbn os.length (fun _=>none)))) ids (some [prsP os pw cj,.h id2 0 os.length])):=by
 refine AC.introx envOk Tryz.func65 rfl (by kernel_rfl) Tryz.ntmps65 Tryz.results65 (fun hfr=> ?_)
 refine AW.sr envOk (fun N hN=> ?_)
 simp-dsimp-implicitDefEqProofs (maxSteps:=800000) (disch:=omega) only[go_sem,undef,prsP,w64,vi,ints]
 refine hN _ ?_
 try clear hN N
 refine AW.sr envOk (fun N hN=> ?_)
 simp-dsimp-implicitDefEqProofs (maxSteps:=800000) (disch:=omega) only[go_sem,undef,prsP,w64,vi,ints]
 refine hN _ ?_
 try clear hN N
 refine AW.ret ?_
 simp-dsimp-implicitDefEqProofs (maxSteps:=800000) (disch:=omega) only[go_sem,undef]
 rw[tbn_nil]
 exact⟨_,Le.refl _,_,_,rfl,⟨by omega,by omega,by omega,by omega,by omega⟩,rfl⟩
noncomputable def outR (P:Pc) (t:Nat→Option V) (r:Nat):List V:=outS (dnG (rdR P) t P.n (P.n-r)) P.n
theorem outR_step (h:presOk os pw cj) (hc:Con (pc os pw cj) 0) {t:Nat→Option V} (hG:tbG (pc os pw cj) t) {d:Nat} (hd:d<os.length):
    (t d=none→outR (pc os pw cj) t d=outR (pc os pw cj) t (d+1))∧(∀y,t d=some y→outR (pc os pw cj) t d=rdl (pc os pw cj) (outR (pc os pw cj) t (d+1)) y::outR (pc os pw cj) t (d+1)):=by
  have hn0:(pc os pw cj).n=os.length:=rfl
  obtain⟨j,hj⟩:∃j,os.length-(d+1)=j:=⟨_,rfl⟩
  have e1:os.length-d=j+1:=by omega
  have e2:os.length-1-j=d:=by omega
  have hok:=dnR_ok os pw cj h hc hG j (by omega)
  obtain⟨D,hD⟩:∃D,dnG (rdR (pc os pw cj)) t os.length j=D:=⟨_,rfl⟩
  unfold outR
  rw[hn0,e1,hj,dnG,e2]
  rw[hD]at hok ⊢
  refine⟨fun h0=>by rw[h0],fun y hy=> ?_⟩
  rw[hy]
  dsimp only
  have hlow:∀e,e≤d→D e=none:=fun e he=>by
    cases hq:D e with
    |none=>rfl
    |some z=>have:=(hok e z hq).1;omega
  rw[(outS_front hlow os.length).2.2 hd]
  congr 1
  have h1:=rdn_low (rd:=rdR (pc os pw cj)) (dn:=D) (f:=j) (d+1) 0 y (fun i _ h2=>hlow i (by omega))
  rw[Nat.zero_add,show j+(d+1)=os.length by omega]at h1
  rw[show os.length-j=d+1 by omega,←h1]
  exact rdn_rdl (P:=pc os pw cj) (fun e w he=>by
    obtain⟨a1,a2,a3,a4⟩:=hok e w he
    exact ldV_eq (P:=pc os pw cj) a2 a3 a4) y
theorem outR_top {t:Nat→Option V}:outR (pc os pw cj) t os.length=[]:=by
  unfold outR
  have hn0:(pc os pw cj).n=os.length:=rfl
  rw[hn0,Nat.sub_self]
  have:∀k,outS (dnG (rdR (pc os pw cj)) t os.length 0) k=[]:=by
    intro k
    induction k with
    |zero=>rfl
    |succ k ih=>rw[outS_none (by rfl)];exact ih
  exact this _
set_option maxRecDepth 20000 in
set_option maxHeartbeats 1000000 in
theorem impl_canonical_n (h:presOk os pw cj) (hc:Con (pc os pw cj) 0) (t:Nat→Option V) (hG:tbG (pc os pw cj) t) (nx:Nat) (H:HP) (ids id2:Nat) (h1':H ids=some [prsP os pw cj,.h id2 0 os.length]) (h2':H id2=some (tbn os.length t)):AC Tryz.prog 67 nx H [.q ids 0] (fun nx' H' r=>OwZ os.length nx nx' H H' r (outR (pc os pw cj) t 0)):=by
 have hn6:=h.1.1
 have hv:=h.val
 have hst:=fun d hd=>outR_step os pw cj h hc hG (d:=d) hd
 have hR:=fun r=>outR_ok os pw cj h hc hG (os.length-r) (Nat.sub_le _ _)
 have hlen:=fun r=>outS_len (dn:=dnG (rdR (pc os pw cj)) t os.length (os.length-r)) (k:=os.length)
 have htop:=outR_top os pw cj (t:=t)
 obtain⟨W,hW⟩:∃W,outR (pc os pw cj) t=W:=⟨_,rfl⟩
 have hWe:∀r,outS (dnG (rdR (pc os pw cj)) t os.length (os.length-r)) os.length=W r:=fun r=>by rw[←hW];rfl
 simp only[hWe]at hR hlen
 rw[hW]at hst htop
 refine AC.introx envOk Tryz.func67 rfl (by kernel_rfl) Tryz.ntmps67 Tryz.results67 (fun hfr=> ?_)
 have hlt1:ids<nx:=by
  apply Classical.byContradiction;intro hn
  rw[hfr ids (by omega)]at h1';cases h1'
 have hlt2:id2<nx:=by
  apply Classical.byContradiction;intro hn
  rw[hfr id2 (by omega)]at h2';cases h2'
 refine AW.sr envOk (fun N hN=> ?_)
 simp-dsimp-implicitDefEqProofs (maxSteps:=800000) (disch:=omega) only[go_sem,undef,prsP,w64,vi,ints,gd_i,h1',h2',tbc_nil,tbc_ne,nilB_pos,ex_sl,eq_self,ci1,Nat.add_sub_cancel,one_nilT,one_viT,tk_map,Nat.min_self]
 refine hN _ ?_
 try clear hN N
 refine AW.sr envOk (fun N hN=> ?_)
 simp-dsimp-implicitDefEqProofs (maxSteps:=800000) (disch:=omega) only[go_sem,undef,prsP,w64,vi,ints,gd_i,h1',h2',tbc_nil,tbc_ne,nilB_pos,ex_sl,eq_self,ci1,Nat.add_sub_cancel,one_nilT,one_viT,tk_map,Nat.min_self]
 refine hN _ ?_
 try clear hN N
 refine AW.seq (fun N1 hN1=> ?_)
 refine AW.sr envOk (fun N hN=> ?_)
 simp-dsimp-implicitDefEqProofs (maxSteps:=800000) (disch:=omega) only[go_sem,undef,prsP,w64,vi,ints,gd_i,h1',h2',tbc_nil,tbc_ne,nilB_pos,ex_sl,eq_self,ci1,Nat.add_sub_cancel,one_nilT,one_viT,tk_map,Nat.min_self]
 refine hN _ ?_
 try clear hN N
 refine AW.block ?_
 refine AW.loopN (α:=Nat×Option Nat) (fun x=>sl 42 [(0,.q ids 0),(3,oA x.2 (W x.1).length),(4,.i .i64 ((x.1:Int)-1))]) (fun x=>oH H x.2 ((W x.1).map (vi os.length))) (fun x m=>(x.1≤os.length∧nx≤m)∧(x.2=none→W x.1=[])∧(∀id,x.2=some id→nx≤id∧id<m)) (fun x=>x.1) ((os.length,none)) ?_ ?_ (fun _ _ h=>h) ?_
 ·exact⟨⟨Nat.le_refl _,by first|omega|(simp only;omega)|(dsimp only;omega)⟩,fun _=>htop,fun id hid=>(by cases hid)⟩
 ·simp(disch:=omega) [wks,wkA,sl,oA,w64]<;>omega
 ·skip
  rintro⟨r,(_|id)⟩ m ⟨⟨hr,hm⟩,hno,hid⟩
  all_goals dsimp only at hr hm hno hid
  all_goals by_cases hb:t (r-1)=none
  ·skip
   dsimp only[oA,oH]
   have hw0:=hno rfl
   refine AW.seq (fun N2 hN2=> ?_)
   refine AW.sr envOk (fun N hN=> ?_)
   simp-dsimp-implicitDefEqProofs (maxSteps:=800000) (disch:=omega) only[go_sem,undef,prsP,w64,vi,ints,gd_i,h1',h2',tbc_nil,tbc_ne,nilB_pos,ex_sl,eq_self,ci1,Nat.add_sub_cancel,one_nilT,one_viT,tk_map,Nat.min_self]
   refine hN _ ?_
   try clear hN N
   refine AW.cond rfl (fun h1=> ?_) (fun h1=> ?_)
   ·try simp only[cn]at h1
    obtain⟨d,rfl⟩:∃d,r=d+1:=⟨r-1,by omega⟩
    simp only[Nat.add_sub_cancel]at hb
    have hb0:=tkf_none hb
    have hs:=(hst d (by omega)).1 hb
    refine AW.skip ?_
    simp only[thn,blk]
    refine hN2 _ ?_
    try clear hN2 N2
    refine AW.seq (fun N3 hN3=> ?_)
    refine AW.block ?_
    refine AW.sr envOk (fun N hN=> ?_)
    simp-dsimp-implicitDefEqProofs (maxSteps:=800000) (disch:=omega) only[go_sem,undef,prsP,w64,vi,ints,gd_i,h1',h2',tbc_nil,tbc_ne,nilB_pos,ex_sl,eq_self,ci1,Nat.add_sub_cancel,one_nilT,one_viT,tk_map,Nat.min_self]
    refine hN _ ?_
    try clear hN N
    refine AW.cond rfl (fun h2=> ?_) (fun h2=> ?_)
    ·try simp only[cn]at h2
     first|done|(cases h2)|(exact absurd h2 (by simp))
    ·try simp only[cn]at h2
     refine AW.skip ?_
     simp only[thn,blk]
     refine hN3 _ ?_
     try clear hN3 N3
     refine AW.regionL envOk ?_
     simp-dsimp-implicitDefEqProofs (maxSteps:=800000) (disch:=omega) only[go_sem,undef,prsP,w64,vi,ints,gd_i,h1',h2',tbc_nil,tbc_ne,nilB_pos,ex_sl,eq_self,ci1,Nat.add_sub_cancel,one_nilT,one_viT,tk_map,Nat.min_self]
     refine⟨(d,none),?_,fun _ _ h=>h,?_,?_⟩
     ·simp(disch:=omega) [wks,wkA,sl,oA,w64,hs,hw0,Nat.add_comm]<;>omega
     ·exact⟨⟨by first|omega|(simp only;omega)|(dsimp only;omega),by first|omega|(simp only;omega)|(dsimp only;omega)⟩,fun _=>by dsimp only;rw[hs];exact hw0,fun id hid=>(by cases hid)⟩
     ·first|omega|(simp only;omega)
   ·try simp only[cn]at h1
    refine AW.exit ?_
    simp only[thn,blk,if_true]
    refine hN1 _ ?_
    try clear hN1 N1
    obtain rfl:r=0:=by omega
    refine AW.sr envOk (fun N hN=> ?_)
    simp-dsimp-implicitDefEqProofs (maxSteps:=800000) (disch:=omega) only[go_sem,undef,prsP,w64,vi,ints,gd_i,h1',h2',tbc_nil,tbc_ne,nilB_pos,ex_sl,eq_self,ci1,Nat.add_sub_cancel,one_nilT,one_viT,tk_map,Nat.min_self]
    refine hN _ ?_
    try clear hN N
    refine AW.ret ?_
    simp-dsimp-implicitDefEqProofs (maxSteps:=800000) (disch:=omega) only[go_sem,undef]
    rw[hW];exact⟨H,Le.refl _,.inr ⟨hw0,rfl,rfl⟩⟩
  ·skip
   dsimp only[oA,oH]
   have hw0:=hno rfl
   refine AW.seq (fun N4 hN4=> ?_)
   refine AW.sr envOk (fun N hN=> ?_)
   simp-dsimp-implicitDefEqProofs (maxSteps:=800000) (disch:=omega) only[go_sem,undef,prsP,w64,vi,ints,gd_i,h1',h2',tbc_nil,tbc_ne,nilB_pos,ex_sl,eq_self,ci1,Nat.add_sub_cancel,one_nilT,one_viT,tk_map,Nat.min_self]
   refine hN _ ?_
   try clear hN N
   refine AW.cond rfl (fun h3=> ?_) (fun h3=> ?_)
   ·try simp only[cn]at h3
    obtain⟨d,rfl⟩:∃d,r=d+1:=⟨r-1,by omega⟩
    simp only[Nat.add_sub_cancel]at hb
    obtain⟨hb0,hy⟩:=tkf_some hb
    obtain⟨y,hyy⟩:∃y,(t d).getD z0=y:=⟨_,rfl⟩
    rw[hyy]at hy
    have hs:=(hst d (by omega)).2 y hy
    have hyT:=(hG d y hy).2.1.mono hv (Nat.zero_le d)
    refine AW.skip ?_
    simp only[thn,blk]
    refine hN4 _ ?_
    try clear hN4 N4
    refine AW.seq (fun N5 hN5=> ?_)
    refine AW.block ?_
    refine AW.sr envOk (fun N hN=> ?_)
    simp-dsimp-implicitDefEqProofs (maxSteps:=800000) (disch:=omega) only[go_sem,undef,prsP,w64,vi,ints,gd_i,h1',h2',tbc_nil,tbc_ne,nilB_pos,ex_sl,eq_self,ci1,Nat.add_sub_cancel,one_nilT,one_viT,tk_map,Nat.min_self]
    refine hN _ ?_
    try clear hN N
    refine AW.cond rfl (fun h4=> ?_) (fun h4=> ?_)
    ·try simp only[cn]at h4
     refine AW.seq (fun N hN=> ?_)
     refine AW.drawL envOk (by kernel_rfl) 12 (by kernel_rfl) ?_
     simp-dsimp-implicitDefEqProofs (maxSteps:=800000) (disch:=omega) only[hr_nil,hr_one,hr_if,List.take_succ_cons,List.take_zero,List.drop_succ_cons,List.drop_zero,List.take_nil,List.drop_nil,go_sem,undef,prsP,w64,vi,ints,gd_i,h1',h2',tbc_nil,tbc_ne,nilB_pos,ex_sl,eq_self,ci1,Nat.add_sub_cancel,one_nilT,one_viT,tk_map,Nat.min_self,hyy]
     refine((impl_representative_ok os pw cj h hc [] (by simp) (fun k hk=>absurd hk (by simp)) y hyT).vi (.cons (.refl _) (.cons .nl (.cons (.refl _) .nil)))).mono2 ?_
     rintro m1 H1 r1 hm1 ⟨rfl,rfl⟩
     have hs2:W d=[rdl (pc os pw cj) [] y]:=by rw[hs,hw0]
     try simp-dsimp-implicitDefEqProofs (maxSteps:=800000) (disch:=omega) only[go_sem,undef,prsP,w64,vi,ints,gd_i,h1',h2',tbc_nil,tbc_ne,nilB_pos,ex_sl,eq_self,ci1,Nat.add_sub_cancel,one_nilT,one_viT,tk_map,Nat.min_self]
     refine hN _ ?_
     try clear hN N
     refine AW.regionL envOk ?_
     simp-dsimp-implicitDefEqProofs (maxSteps:=800000) (disch:=omega) only[go_sem,undef,prsP,w64,vi,ints,gd_i,h1',h2',tbc_nil,tbc_ne,nilB_pos,ex_sl,eq_self,ci1,Nat.add_sub_cancel,one_nilT,one_viT,tk_map,Nat.min_self]
     refine hN5 _ ?_
     try clear hN5 N5
     refine AW.regionL envOk ?_
     simp-dsimp-implicitDefEqProofs (maxSteps:=800000) (disch:=omega) only[go_sem,undef,prsP,w64,vi,ints,gd_i,h1',h2',tbc_nil,tbc_ne,nilB_pos,ex_sl,eq_self,ci1,Nat.add_sub_cancel,one_nilT,one_viT,tk_map,Nat.min_self]
     refine⟨(d,some (m1+3)),?_,(by dsimp only[oH];rw[hs2];exact le_updF hfr (fun i hi=>by simp(disch:=omega) only[upd_ne])),?_,?_⟩
     ·simp(disch:=omega) [wks,wkA,sl,oA,w64,hs,hw0,Nat.add_comm]<;>omega
     ·exact⟨⟨by first|omega|(simp only;omega)|(dsimp only;omega),by first|omega|(simp only;omega)|(dsimp only;omega)⟩,fun hh=>(by cases hh),fun id hid=>(by cases hid;exact⟨by first|omega|(simp only;omega)|(dsimp only;omega),by first|omega|(simp only;omega)|(dsimp only;omega)⟩)⟩
     ·first|omega|(simp only;omega)
    ·try simp only[cn]at h4
     first|done|(cases h4)|(exact absurd h4 (by simp))
   ·try simp only[cn]at h3
    refine AW.exit ?_
    simp only[thn,blk,if_true]
    refine hN1 _ ?_
    try clear hN1 N1
    obtain rfl:r=0:=by omega
    refine AW.sr envOk (fun N hN=> ?_)
    simp-dsimp-implicitDefEqProofs (maxSteps:=800000) (disch:=omega) only[go_sem,undef,prsP,w64,vi,ints,gd_i,h1',h2',tbc_nil,tbc_ne,nilB_pos,ex_sl,eq_self,ci1,Nat.add_sub_cancel,one_nilT,one_viT,tk_map,Nat.min_self]
    refine hN _ ?_
    try clear hN N
    refine AW.ret ?_
    simp-dsimp-implicitDefEqProofs (maxSteps:=800000) (disch:=omega) only[go_sem,undef]
    rw[hW];exact⟨H,Le.refl _,.inr ⟨hw0,rfl,rfl⟩⟩
  ·skip
   dsimp only[oA,oH]
   obtain⟨i1,i2⟩:=hid id rfl
   have hw0:=rfl (a:=0)
   refine AW.seq (fun N6 hN6=> ?_)
   refine AW.sr envOk (fun N hN=> ?_)
   simp-dsimp-implicitDefEqProofs (maxSteps:=800000) (disch:=omega) only[go_sem,undef,prsP,w64,vi,ints,gd_i,h1',h2',tbc_nil,tbc_ne,nilB_pos,ex_sl,eq_self,ci1,Nat.add_sub_cancel,one_nilT,one_viT,tk_map,Nat.min_self]
   refine hN _ ?_
   try clear hN N
   refine AW.cond rfl (fun h5=> ?_) (fun h5=> ?_)
   ·try simp only[cn]at h5
    obtain⟨d,rfl⟩:∃d,r=d+1:=⟨r-1,by omega⟩
    simp only[Nat.add_sub_cancel]at hb
    have hb0:=tkf_none hb
    have hs:=(hst d (by omega)).1 hb
    refine AW.skip ?_
    simp only[thn,blk]
    refine hN6 _ ?_
    try clear hN6 N6
    refine AW.seq (fun N7 hN7=> ?_)
    refine AW.block ?_
    refine AW.sr envOk (fun N hN=> ?_)
    simp-dsimp-implicitDefEqProofs (maxSteps:=800000) (disch:=omega) only[go_sem,undef,prsP,w64,vi,ints,gd_i,h1',h2',tbc_nil,tbc_ne,nilB_pos,ex_sl,eq_self,ci1,Nat.add_sub_cancel,one_nilT,one_viT,tk_map,Nat.min_self]
    refine hN _ ?_
    try clear hN N
    refine AW.cond rfl (fun h6=> ?_) (fun h6=> ?_)
    ·try simp only[cn]at h6
     first|done|(cases h6)|(exact absurd h6 (by simp))
    ·try simp only[cn]at h6
     refine AW.skip ?_
     simp only[thn,blk]
     refine hN7 _ ?_
     try clear hN7 N7
     refine AW.regionL envOk ?_
     simp-dsimp-implicitDefEqProofs (maxSteps:=800000) (disch:=omega) only[go_sem,undef,prsP,w64,vi,ints,gd_i,h1',h2',tbc_nil,tbc_ne,nilB_pos,ex_sl,eq_self,ci1,Nat.add_sub_cancel,one_nilT,one_viT,tk_map,Nat.min_self]
     refine⟨(d,some id),?_,(by dsimp only[oH];rw[hs];exact Le.refl _),?_,?_⟩
     ·simp(disch:=omega) [wks,wkA,sl,oA,w64,hs,hw0,Nat.add_comm]<;>omega
     ·exact⟨⟨by first|omega|(simp only;omega)|(dsimp only;omega),by first|omega|(simp only;omega)|(dsimp only;omega)⟩,fun hh=>(by cases hh),fun id' hid'=>(by cases hid';exact⟨by first|omega|(simp only;omega)|(dsimp only;omega),by first|omega|(simp only;omega)|(dsimp only;omega)⟩)⟩
     ·first|omega|(simp only;omega)
   ·try simp only[cn]at h5
    refine AW.exit ?_
    simp only[thn,blk,if_true]
    refine hN1 _ ?_
    try clear hN1 N1
    obtain rfl:r=0:=by omega
    refine AW.sr envOk (fun N hN=> ?_)
    simp-dsimp-implicitDefEqProofs (maxSteps:=800000) (disch:=omega) only[go_sem,undef,prsP,w64,vi,ints,gd_i,h1',h2',tbc_nil,tbc_ne,nilB_pos,ex_sl,eq_self,ci1,Nat.add_sub_cancel,one_nilT,one_viT,tk_map,Nat.min_self]
    refine hN _ ?_
    try clear hN N
    refine AW.ret ?_
    simp-dsimp-implicitDefEqProofs (maxSteps:=800000) (disch:=omega) only[go_sem,undef]
    rw[hW];exact⟨_,Le.refl _,.inl ⟨id,rfl,i1,by omega,rfl⟩⟩
  ·skip
   dsimp only[oA,oH]
   obtain⟨i1,i2⟩:=hid id rfl
   have hw0:=rfl (a:=0)
   refine AW.seq (fun N8 hN8=> ?_)
   refine AW.sr envOk (fun N hN=> ?_)
   simp-dsimp-implicitDefEqProofs (maxSteps:=800000) (disch:=omega) only[go_sem,undef,prsP,w64,vi,ints,gd_i,h1',h2',tbc_nil,tbc_ne,nilB_pos,ex_sl,eq_self,ci1,Nat.add_sub_cancel,one_nilT,one_viT,tk_map,Nat.min_self]
   refine hN _ ?_
   try clear hN N
   refine AW.cond rfl (fun h7=> ?_) (fun h7=> ?_)
   ·try simp only[cn]at h7
    obtain⟨d,rfl⟩:∃d,r=d+1:=⟨r-1,by omega⟩
    simp only[Nat.add_sub_cancel]at hb
    obtain⟨hb0,hy⟩:=tkf_some hb
    obtain⟨y,hyy⟩:∃y,(t d).getD z0=y:=⟨_,rfl⟩
    rw[hyy]at hy
    have hs:=(hst d (by omega)).2 y hy
    have hyT:=(hG d y hy).2.1.mono hv (Nat.zero_le d)
    have hl9:=hlen (d+1)
    refine AW.skip ?_
    simp only[thn,blk]
    refine hN8 _ ?_
    try clear hN8 N8
    refine AW.seq (fun N9 hN9=> ?_)
    refine AW.block ?_
    refine AW.sr envOk (fun N hN=> ?_)
    simp-dsimp-implicitDefEqProofs (maxSteps:=800000) (disch:=omega) only[go_sem,undef,prsP,w64,vi,ints,gd_i,h1',h2',tbc_nil,tbc_ne,nilB_pos,ex_sl,eq_self,ci1,Nat.add_sub_cancel,one_nilT,one_viT,tk_map,Nat.min_self]
    refine hN _ ?_
    try clear hN N
    refine AW.cond rfl (fun h8=> ?_) (fun h8=> ?_)
    ·try simp only[cn]at h8
     refine AW.seq (fun N hN=> ?_)
     refine AW.drawL envOk (by kernel_rfl) 12 (by kernel_rfl) ?_
     simp-dsimp-implicitDefEqProofs (maxSteps:=800000) (disch:=omega) only[hr_nil,hr_one,hr_if,List.take_succ_cons,List.take_zero,List.drop_succ_cons,List.drop_zero,List.take_nil,List.drop_nil,go_sem,undef,prsP,w64,vi,ints,gd_i,h1',h2',tbc_nil,tbc_ne,nilB_pos,ex_sl,eq_self,ci1,Nat.add_sub_cancel,one_nilT,one_viT,tk_map,Nat.min_self,hyy]
     refine((impl_representative_ok os pw cj h hc (W (d+1)) (by omega) (fun k hk=>hR (d+1) k hk) y hyT).vi (.cons (.refl _) (.cons (Vw.blk (upd_same _ _ _) (List.length_map _).symm) (.cons (.refl _) .nil)))).mono2 ?_
     rintro m1 H1 r1 hm1 ⟨rfl,rfl⟩
     try simp-dsimp-implicitDefEqProofs (maxSteps:=800000) (disch:=omega) only[go_sem,undef,prsP,w64,vi,ints,gd_i,h1',h2',tbc_nil,tbc_ne,nilB_pos,ex_sl,eq_self,ci1,Nat.add_sub_cancel,one_nilT,one_viT,tk_map,Nat.min_self]
     refine hN _ ?_
     try clear hN N
     refine AW.regionL envOk ?_
     simp-dsimp-implicitDefEqProofs (maxSteps:=800000) (disch:=omega) only[go_sem,undef,prsP,w64,vi,ints,gd_i,h1',h2',tbc_nil,tbc_ne,nilB_pos,ex_sl,eq_self,ci1,Nat.add_sub_cancel,one_nilT,one_viT,tk_map,Nat.min_self]
     refine hN9 _ ?_
     try clear hN9 N9
     refine AW.regionL envOk ?_
     simp-dsimp-implicitDefEqProofs (maxSteps:=800000) (disch:=omega) only[go_sem,undef,prsP,w64,vi,ints,gd_i,h1',h2',tbc_nil,tbc_ne,nilB_pos,ex_sl,eq_self,ci1,Nat.add_sub_cancel,one_nilT,one_viT,tk_map,Nat.min_self]
     refine⟨(d,some (m1+3)),?_,(by dsimp only[oH];rw[hs];exact le_updF hfr (fun i hi=>by simp(disch:=omega) only[upd_ne])),?_,?_⟩
     ·simp(disch:=omega) [wks,wkA,sl,oA,w64,hs,hw0,Nat.add_comm]<;>omega
     ·exact⟨⟨by first|omega|(simp only;omega)|(dsimp only;omega),by first|omega|(simp only;omega)|(dsimp only;omega)⟩,fun hh=>(by cases hh),fun id hid=>(by cases hid;exact⟨by first|omega|(simp only;omega)|(dsimp only;omega),by first|omega|(simp only;omega)|(dsimp only;omega)⟩)⟩
     ·first|omega|(simp only;omega)
    ·try simp only[cn]at h8
     first|done|(cases h8)|(exact absurd h8 (by simp))
   ·try simp only[cn]at h7
    refine AW.exit ?_
    simp only[thn,blk,if_true]
    refine hN1 _ ?_
    try clear hN1 N1
    obtain rfl:r=0:=by omega
    refine AW.sr envOk (fun N hN=> ?_)
    simp-dsimp-implicitDefEqProofs (maxSteps:=800000) (disch:=omega) only[go_sem,undef,prsP,w64,vi,ints,gd_i,h1',h2',tbc_nil,tbc_ne,nilB_pos,ex_sl,eq_self,ci1,Nat.add_sub_cancel,one_nilT,one_viT,tk_map,Nat.min_self]
    refine hN _ ?_
    try clear hN N
    refine AW.ret ?_
    simp-dsimp-implicitDefEqProofs (maxSteps:=800000) (disch:=omega) only[go_sem,undef]
    rw[hW];exact⟨_,Le.refl _,.inl ⟨id,rfl,i1,by omega,rfl⟩⟩
theorem impl_canonical_ok (h:presOk os pw cj) (hc:Con (pc os pw cj) 0) (t:Nat→Option V) (hG:tbG (pc os pw cj) t) (nx:Nat) (H:HP) (ids id2:Nat) (h1':H ids=some [prsP os pw cj,.h id2 0 os.length]) (h2':H id2=some (tbn os.length t)):AC Tryz.prog 67 nx H [.q ids 0] (fun _ H' r=>r=vls os.length (outR (pc os pw cj) t 0)∧H'=H):=
  (impl_canonical_n os pw cj h hc t hG nx H ids id2 h1' h2').frL
end
end Go.Proofs.YtnlfbimjcabgiaaGreat
