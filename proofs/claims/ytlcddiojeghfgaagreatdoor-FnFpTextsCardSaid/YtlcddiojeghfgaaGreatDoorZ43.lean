import Derived.Test.YtlcddiojeghfgaaGreatDoorZ36
import Derived.Test.YtlcddiojeghfgaaGreatDoorZ37
import Derived.Test.YtlcddiojeghfgaaGreatDoorZ42
set_option linter.unusedVariables false
set_option linter.unusedSimpArgs false
namespace Go.Proofs.YtlcddiojeghfgaaGreatDoor
open Nat (reduceAdd reduceSub reduceGT reduceEqDiff reduceMul)
def srcOk (bs:List Int) (sid:Nat) (G:HP):Prop:=∃a s,srOk bs a s∧G sid=some (srB bs a s)
def sK (bs:List Int) (sid nx:Nat) (H:HP) (Q:AV→Prop):Nat→HP→AV→Prop:=fun _ H' r=>Q r∧srcOk bs sid H'∧∀i,i<nx→i≠sid→H' i=H i
theorem srcOk.keep {bs:List Int} {sid:Nat} {G G':HP} (h:srcOk bs sid G) (hk:G' sid=G sid):srcOk bs sid G':=by
  obtain⟨a,s,h1,h2⟩:=h
  exact⟨a,s,h1,hk.trans h2⟩
theorem AC.zs {P:Program} {f:FuncId} {xs:List AV} {Q:AV→Prop} {nx sid:Nat} {H:HP} {bs:List Int} (hsn:sid<nx) (h:AC P f nx H xs (fun nx' H' r=>∃r2,Fz H' (blw nx H') r r2∧Q r2∧srcOk bs sid H'∧∀i,i<nx→i≠sid→H' i=H i)):AC P f nx H xs (sK bs sid nx H Q):=
  h.frz fun nx' H' r ⟨r2,g1,g2,g3,g4⟩=>⟨blw nx H',r2,FzH.blw,g1,g2,g3.keep (blw_lt hsn),fun i hi hne=>(blw_lt hi).trans (g4 i hi hne)⟩
def numQ (n:Int) (r:AV):Prop:=∃x,r= .i .i64 x∧0≤x∧(x<n∨x=0)
theorem spec_l01Next_s {bs:List Int} {sid:Nat} {H:HP} (hg:srcOk bs sid H) (n:Int) (hn:n≤1000000000) (nx:Nat):AC Tryz.prog 23 nx H [.q sid 0,.i .i64 n] (sK bs sid nx H (numQ n)):=by
  obtain⟨a,s,h1,h2⟩:=hg
  refine(spec_l01Next_o bs a s h1 n hn nx H sid h2).mono ?_
  rintro nx' H' r ⟨x,a',s',rfl,hx,ho,rfl⟩
  exact⟨⟨x,rfl,hx⟩,⟨a',s',ho,upd_same _ _ _⟩,fun i _ hne=>upd_ne _ _ hne⟩
theorem spec_l01Pick_o {bs:List Int} {sid lid:Nat} {H:HP} (hg:srcOk bs sid H) (vs:List Int) (n:Nat) (hl:H lid=some (vs.map (.i .i64))) (hn:vs.length=n) (h0:0<n) (h1:n≤1000) (nx:Nat) (hsn:sid<nx) (hln:lid<nx) (hne:lid≠sid):AC Tryz.prog 24 nx H [.q sid 0,.h lid 0 n] (fun nx' H' r=>∃r2,Fz H' (blw nx H') r r2∧(∃x,r2= .i .i64 x∧x∈vs)∧srcOk bs sid H'∧∀i,i<nx→i≠sid→H' i=H i):=by
 refine AC.introx envOk Tryz.func24 rfl (by kernel_rfl) Tryz.ntmps24 Tryz.results24 (fun hfr cX=> ?_)
 refine AW.sr envOk (fun N hN=> ?_)
 simp-dsimp-implicitDefEqProofs (disch:=(first|omega|((repeat refine LC.upd (by omega) ?_);assumption))) only[go_sem,undef,w64]
 refine hN _ ?_
 try clear hN N
 refine AW.sr envOk (fun N hN=> ?_)
 simp-dsimp-implicitDefEqProofs (disch:=(first|omega|((repeat refine LC.upd (by omega) ?_);assumption))) only[go_sem,undef,w64]
 refine(spec_l01Next_s hg n (by omega) _).mono2 ?_
 rintro m1 H1 r1 hm1 ⟨⟨x,rfl,hx⟩,hg1,hk1⟩
 have hl1:=(hk1 lid (by omega) hne).trans hl
 have hxn:x.toNat<vs.length:=by omega
 have hget:(vs.map (AV.i .i64)).getD x.toNat .j= .i .i64 (vs.getD x.toNat 0):=gd_i hxn
 try simp-dsimp-implicitDefEqProofs (disch:=(first|omega|((repeat refine LC.upd (by omega) ?_);assumption))) only[go_sem,undef,w64,hl1,hget,List.length_map,hn]
 refine hN _ ?_
 try clear hN N
 refine AW.ret ?_
 simp-dsimp-implicitDefEqProofs (disch:=(first|omega|((repeat refine LC.upd (by omega) ?_);assumption))) only[go_sem,undef]
 exact⟨_,fun _ _ h=>h,_,.refl _,⟨_,rfl,by rw[List.getD_eq_getElem?_getD,List.getElem?_eq_getElem hxn];exact List.getElem_mem hxn⟩,hg1,fun i hi hne2=>hk1 i (by omega) hne2⟩
theorem spec_l01Pick_s {bs:List Int} {sid lid:Nat} {H:HP} (hg:srcOk bs sid H) (vs:List Int) (n:Nat) (hl:H lid=some (vs.map (.i .i64))) (hn:vs.length=n) (h0:0<n) (h1:n≤1000) (nx:Nat) (hsn:sid<nx) (hln:lid<nx) (hne:lid≠sid):AC Tryz.prog 24 nx H [.q sid 0,.h lid 0 n] (sK bs sid nx H (fun r=>∃x,r= .i .i64 x∧x∈vs)):=AC.zs hsn (spec_l01Pick_o hg vs n hl hn h0 h1 nx hsn hln hne)
theorem setAll_one {pre z:List AV} {y x:AV}:setAll (pre++y::z) (pre.length*1) [x]=pre++x::z:=by
  simp[setAll]
theorem fillA_lit:∀(xs pre z:List AV),(∀x∈xs,cellsA x=[x]∧okA x=true)→z.length=xs.length→fillA (fun i=>some (i*1,1)) (pre++z) ((xs.zipIdx pre.length).map fun p=>(p.2,p.1))=some (pre++xs):=by
  intro xs
  induction xs with
  |nil=>intro pre z _ hz;rw[List.length_eq_zero_iff.1 hz];simp[fillA]
  | cons x xs ih=>
    intro pre z hx hz
    cases z with
    |nil=>simp at hz
    | cons y z=>
      obtain⟨h1,h2⟩:=hx x (by simp)
      simp only[List.zipIdx_cons,List.map_cons,fillA]
      rw[h1,h2,if_neg (by simp),setAll_one]
      have:=ih (pre++[x]) z (fun w hw=>hx w (by simp[hw])) (by simpa using hz)
      simpa using this
theorem bsop_lit {Γ:TEnv} {ty el:TypeId} {e ee:TE} {n:Nat} {xs:List AV} {parts:List (Nat×AV)} {id:Nat} {k:AV→Option (List AV)→Prop} (h1:Γ ty=some e) (h2:e.d= .slice el) (h3:Γ el=some ee) (h4:(ee.size==1)=true) (h5:ee.zero.cells.size=1) (hn:xs.length=n) (hn2:n≤1000) (hx:∀x∈xs,cellsA x=[x]∧okA x=true) (hp:parts=(xs.zipIdx 0).map fun p=>(p.2,p.1)):bsop Γ ty n parts id k=k (.h id 0 n) (some xs):=by
  unfold bsop
  simp only[h1,h2,h3]
  rw[h4,ifS_true,hp]
  have:=fillA_lit xs [] (List.replicate n (ofV1 (ee.zero.cells.getD 0 undef))) hx (by simp[hn])
  rw[List.nil_append,List.nil_append,List.length_nil]at this
  rw[this]
  simp only[eq_iff_iff]
  exact⟨fun h=>h.2.2.2,fun h=>⟨h5,by omega,hn,h⟩⟩
theorem bs_i (n:Nat) (vs:List Int) (hn:vs.length=n) (hn2:n≤1000) {parts:List (Nat×AV)} {id:Nat} {k:AV→Option (List AV)→Prop} (hp:parts=((vs.map (AV.i .i64)).zipIdx 0).map fun p=>(p.2,p.1)):bsop env 48 n parts id k=k (.h id 0 n) (some (vs.map (.i .i64))):=
  bsop_lit rfl rfl rfl rfl rfl (by rw[List.length_map];exact hn) hn2 (fun x hx=>by obtain⟨v,_,rfl⟩:=List.mem_map.1 hx;exact⟨rfl,rfl⟩) hp
theorem bs_s (n:Nat) (vs:List ByteArray) (hn:vs.length=n) (hn2:n≤1000) {parts:List (Nat×AV)} {id:Nat} {k:AV→Option (List AV)→Prop} (hp:parts=((vs.map AV.s).zipIdx 0).map fun p=>(p.2,p.1)):bsop env 42 n parts id k=k (.h id 0 n) (some (vs.map .s)):=
  bsop_lit rfl rfl rfl rfl rfl (by rw[List.length_map];exact hn) hn2 (fun x hx=>by obtain⟨v,_,rfl⟩:=List.mem_map.1 hx;exact⟨rfl,rfl⟩) hp
theorem a_bs10s {P:Program} {dst:Option Nat} (b0 b1 b2 b3 b4 b5 b6 b7 b8 b9:ByteArray) (id:Nat) (s:St) (K:St→Prop):aop env P dst (.buildSlice 42 10 #[(0,.const (.string b0)),(1,.const (.string b1)),(2,.const (.string b2)),(3,.const (.string b3)),(4,.const (.string b4)),(5,.const (.string b5)),(6,.const (.string b6)),(7,.const (.string b7)),(8,.const (.string b8)),(9,.const (.string b9))]) id s K=K ⟨putA s.t dst (.h id 0 10),upd s.H id (some [.s b0,.s b1,.s b2,.s b3,.s b4,.s b5,.s b6,.s b7,.s b8,.s b9]),s.nx⟩:=by
  rw[a_bs]
  exact bs_s 10 [b0,b1,b2,b3,b4,b5,b6,b7,b8,b9] rfl (by omega) rfl
theorem a_bs11i {P:Program} {dst:Option Nat} (b0 b1 b2 b3 b4 b5 b6 b7 b8 b9 b10:Int) (id:Nat) (s:St) (K:St→Prop):aop env P dst (.buildSlice 48 11 #[(0,.const (.int .i64 b0)),(1,.const (.int .i64 b1)),(2,.const (.int .i64 b2)),(3,.const (.int .i64 b3)),(4,.const (.int .i64 b4)),(5,.const (.int .i64 b5)),(6,.const (.int .i64 b6)),(7,.const (.int .i64 b7)),(8,.const (.int .i64 b8)),(9,.const (.int .i64 b9)),(10,.const (.int .i64 b10))]) id s K=K ⟨putA s.t dst (.h id 0 11),upd s.H id (some [.i .i64 b0,.i .i64 b1,.i .i64 b2,.i .i64 b3,.i .i64 b4,.i .i64 b5,.i .i64 b6,.i .i64 b7,.i .i64 b8,.i .i64 b9,.i .i64 b10]),s.nx⟩:=by
  rw[a_bs]
  exact bs_i 11 [b0,b1,b2,b3,b4,b5,b6,b7,b8,b9,b10] rfl (by omega) rfl
theorem a_bs8i {P:Program} {dst:Option Nat} (b0 b1 b2 b3 b4 b5 b6 b7:Int) (id:Nat) (s:St) (K:St→Prop):aop env P dst (.buildSlice 48 8 #[(0,.const (.int .i64 b0)),(1,.const (.int .i64 b1)),(2,.const (.int .i64 b2)),(3,.const (.int .i64 b3)),(4,.const (.int .i64 b4)),(5,.const (.int .i64 b5)),(6,.const (.int .i64 b6)),(7,.const (.int .i64 b7))]) id s K=K ⟨putA s.t dst (.h id 0 8),upd s.H id (some [.i .i64 b0,.i .i64 b1,.i .i64 b2,.i .i64 b3,.i .i64 b4,.i .i64 b5,.i .i64 b6,.i .i64 b7]),s.nx⟩:=by
  rw[a_bs]
  exact bs_i 8 [b0,b1,b2,b3,b4,b5,b6,b7] rfl (by omega) rfl
theorem a_bs5i {P:Program} {dst:Option Nat} (b0 b1 b2 b3 b4:Int) (id:Nat) (s:St) (K:St→Prop):aop env P dst (.buildSlice 48 5 #[(0,.const (.int .i64 b0)),(1,.const (.int .i64 b1)),(2,.const (.int .i64 b2)),(3,.const (.int .i64 b3)),(4,.const (.int .i64 b4))]) id s K=K ⟨putA s.t dst (.h id 0 5),upd s.H id (some [.i .i64 b0,.i .i64 b1,.i .i64 b2,.i .i64 b3,.i .i64 b4]),s.nx⟩:=by
  rw[a_bs]
  exact bs_i 5 [b0,b1,b2,b3,b4] rfl (by omega) rfl
def tabT:List (List UInt8):=[[49],
  [50],
  [50,32,50,59,32,97,94,50,61,98],
  [50,32,51,59,32,98,94,97,61,98,98],
  [51,32,50,32,50,59,32,98,94,97,61,99,59,32,99,94,97,61,98,99],
  [50,32,51,32,50,32,50,59,32,98,94,97,61,98,98,59,32,99,94,97,61,100,59,32,100,94,97,61,99,59,32,99,94,98,61,100,59,32,100,94,98,61,99,100],
  [51,32,50,32,50,32,50,59,32,98,94,50,61,100,59,32,99,94,50,61,100,59,32,98,94,97,61,99,59,32,99,94,97,61,98,99,59,32,99,94,98,61,99,100],
  [50,32,50,32,50,59,32,97,94,50,61,99,59,32,98,94,50,61,99,59,32,98,94,97,61,98,99],
  [50,32,50,32,50,59,32,98,94,97,61,98,99],
  [50,32,50,32,50,32,50,59,32,99,94,97,61,99,100,59,32,99,94,98,61,99,100]]
theorem tabT_cells:[AV.s ⟨#[49]⟩,AV.s ⟨#[50]⟩,AV.s ⟨#[50,32,50,59,32,97,94,50,61,98]⟩,AV.s ⟨#[50,32,51,59,32,98,94,97,61,98,98]⟩,AV.s ⟨#[51,32,50,32,50,59,32,98,94,97,61,99,59,32,99,94,97,61,98,99]⟩,AV.s ⟨#[50,32,51,32,50,32,50,59,32,98,94,97,61,98,98,59,32,99,94,97,61,100,59,32,100,94,97,61,99,59,32,99,94,98,61,100,59,32,100,94,98,61,99,100]⟩,AV.s ⟨#[51,32,50,32,50,32,50,59,32,98,94,50,61,100,59,32,99,94,50,61,100,59,32,98,94,97,61,99,59,32,99,94,97,61,98,99,59,32,99,94,98,61,99,100]⟩,AV.s ⟨#[50,32,50,32,50,59,32,97,94,50,61,99,59,32,98,94,50,61,99,59,32,98,94,97,61,98,99]⟩,AV.s ⟨#[50,32,50,32,50,59,32,98,94,97,61,98,99]⟩,AV.s ⟨#[50,32,50,32,50,32,50,59,32,99,94,97,61,99,100,59,32,99,94,98,61,99,100]⟩]=tabT.map fun l=>AV.s (ofL l):=rfl
theorem tab_ok:((List.range 10).map fun k=>(ppS (tabT.getD k [])).isSome)=List.replicate 10 true:=by kernel_rfl
theorem tab_at {k:Nat} (hk:k<10):∃s,ppS (tabT.getD k [])=some s:=by
  have h:(ppS (tabT.getD k [])).isSome=true:=by
    have:=congrArg (fun l=>l[k]?) tab_ok
    simp only[List.getElem?_map,List.getElem?_range hk,List.getElem?_replicate,if_pos hk,Option.map_some]at this
    exact Option.some.inj this
  exact Option.isSome_iff_exists.1 h
theorem tab_len:∀l∈tabT,l.length≤100:=by decide
theorem presOk.shB {os:List Int} {X:List (List Int)} {Y:List (List (List Int))} (h:presOk os X Y):ShB 12 os X Y:=by
  obtain⟨⟨h1,h2,h3⟩,h4,h5,h6⟩:=h
  have mem:∀{α:Type} (xs:List α) (d x:α),x∈xs→∃i,i<xs.length∧xs.getD i d=x:=fun xs d x hx=>by
    obtain⟨i,hi,e⟩:=List.mem_iff_getElem.1 hx
    exact⟨i,hi,by simp[hi,e]⟩
  refine⟨by omega,h2,h3,fun k hk=>by have:=(h6 k hk).2.1;omega,fun x hx=> ?_,fun y hy x hx=> ?_,fun x hx=> ?_⟩
  · obtain⟨i,hi,rfl⟩:=mem _ [] x hx
    have:=(h6 i (by omega)).1.1;omega
  · obtain⟨i,hi,rfl⟩:=mem _ [] y hy
    obtain⟨k,hk,rfl⟩:=mem _ [] x hx
    have:=((h6 i (by omega)).2.2 k hk).1;omega
  · obtain⟨i,hi,rfl⟩:=mem _ 0 x hx
    have:=pr4_bd (h4 i hi);omega
set_option maxHeartbeats 2000000 in
theorem spec_l07Table_o (k:Nat) (hk:k<10):∀nx,AC Tryz.prog 83 nx noH [.i .i64 k] (fun nx' H' r=>∃r2,Fz H' (blw nx H') r r2∧preQ 12 r2):=by
 obtain⟨s2,hs2⟩:=tab_at hk
 have hpo:=(ppS_ok hs2).1.shB
 have hkm:((k:Int).tmod 10).toNat=k:=by rw[Int.tmod_eq_emod_of_nonneg (by omega)];omega
 have hk0:(0≤(k:Int).tmod 10)=True:=eq_true (by rw[Int.tmod_eq_emod_of_nonneg (by omega)];omega)
 have hgt:(tabT.map fun l=>AV.s (ofL l)).getD k .j= .s (ofL (tabT.getD k [])):=by rw[List.getD_eq_getElem?_getD,List.getElem?_map,List.getElem?_eq_getElem (show k<tabT.length from hk),List.getD_eq_getElem?_getD,List.getElem?_eq_getElem (show k<tabT.length from hk)];rfl
 have htl:(tabT.getD k []).length≤100:=getD_all (p:=fun l:List UInt8=>l.length≤100) tab_len (by simp) k
 intro nx
 refine AC.intro' envOk Tryz.func83 rfl (by kernel_rfl) Tryz.ntmps83 Tryz.results83 (fun cX=> ?_)
 refine AW.sr envOk (fun N hN=> ?_)
 simp-dsimp-implicitDefEqProofs (disch:=(first|omega|((repeat refine LC.upd (by omega) ?_);assumption))) only[go_sem,undef,w64,prs]
 refine hN _ ?_
 try clear hN N
 refine AW.seq (fun N hN=> ?_)
 refine AW.regionL envOk ?_
 generalize hb0:(⟨#[49]⟩:ByteArray)=b0
 generalize hb1:(⟨#[50]⟩:ByteArray)=b1
 generalize hb2:(⟨#[50,32,50,59,32,97,94,50,61,98]⟩:ByteArray)=b2
 generalize hb3:(⟨#[50,32,51,59,32,98,94,97,61,98,98]⟩:ByteArray)=b3
 generalize hb4:(⟨#[51,32,50,32,50,59,32,98,94,97,61,99,59,32,99,94,97,61,98,99]⟩:ByteArray)=b4
 generalize hb5:(⟨#[50,32,51,32,50,32,50,59,32,98,94,97,61,98,98,59,32,99,94,97,61,100,59,32,100,94,97,61,99,59,32,99,94,98,61,100,59,32,100,94,98,61,99,100]⟩:ByteArray)=b5
 generalize hb6:(⟨#[51,32,50,32,50,32,50,59,32,98,94,50,61,100,59,32,99,94,50,61,100,59,32,98,94,97,61,99,59,32,99,94,97,61,98,99,59,32,99,94,98,61,99,100]⟩:ByteArray)=b6
 generalize hb7:(⟨#[50,32,50,32,50,59,32,97,94,50,61,99,59,32,98,94,50,61,99,59,32,98,94,97,61,98,99]⟩:ByteArray)=b7
 generalize hb8:(⟨#[50,32,50,32,50,59,32,98,94,97,61,98,99]⟩:ByteArray)=b8
 generalize hb9:(⟨#[50,32,50,32,50,32,50,59,32,99,94,97,61,99,100,59,32,99,94,98,61,99,100]⟩:ByteArray)=b9
 have hsel:[AV.s b0,AV.s b1,AV.s b2,AV.s b3,AV.s b4,AV.s b5,AV.s b6,AV.s b7,AV.s b8,AV.s b9].getD k .j= .s (ofL (tabT.getD k [])):=by
  rw[←hgt,←tabT_cells,hb0,hb1,hb2,hb3,hb4,hb5,hb6,hb7,hb8,hb9]
 clear hb0 hb1 hb2 hb3 hb4 hb5 hb6 hb7 hb8 hb9
 simp-dsimp-implicitDefEqProofs (disch:=(first|omega|((repeat refine LC.upd (by omega) ?_);assumption))) only[↓a_bs10s,go_sem,undef,hkm,hk0,hsel,w64,prs]
 refine hN _ ?_
 try clear hN N
 refine AW.sr envOk (fun N hN=> ?_)
 simp-dsimp-implicitDefEqProofs (disch:=(first|omega|((repeat refine LC.upd (by omega) ?_);assumption))) only[go_sem,undef,w64,prs]
 refine AC.pure (.of (spec_ParsePresentation_ok (tabT.getD k []) s2 (by omega) hs2)) ?_
 try simp-dsimp-implicitDefEqProofs (disch:=(first|omega|((repeat refine LC.upd (by omega) ?_);assumption))) only[go_sem,undef,w64,prs]
 refine hN _ ?_
 try clear hN N
 refine AW.seq (fun N1 hN1=> ?_)
 refine AW.sr envOk (fun N hN=> ?_)
 simp-dsimp-implicitDefEqProofs (disch:=(first|omega|((repeat refine LC.upd (by omega) ?_);assumption))) only[go_sem,undef,w64,prs]
 refine hN _ ?_
 try clear hN N
 refine AW.cond rfl (fun h1=> ?_) (fun h1=> ?_)
 ·try simp only[cn]at h1
  simp at h1
 ·try simp only[cn]at h1
  refine AW.skip ?_
  simp only[thn,blk]
  refine hN1 _ ?_
  try clear hN1 N1
  refine AW.sr envOk (fun N hN=> ?_)
  simp-dsimp-implicitDefEqProofs (disch:=(first|omega|((repeat refine LC.upd (by omega) ?_);assumption))) only[go_sem,undef,w64,prs]
  refine hN _ ?_
  try clear hN N
  refine AW.ret ?_
  simp-dsimp-implicitDefEqProofs (disch:=(first|omega|((repeat refine LC.upd (by omega) ?_);assumption))) only[go_sem,undef]
  exact⟨_,.refl _,s2.1,s2.2.1,s2.2.2,rfl,hpo⟩
theorem spec_l07Table_z (k:Nat) (hk:k<10) (nx:Nat) (H:HP):AC Tryz.prog 83 nx H [.i .i64 k] (zK nx H (preQ 12)):=AC.zz (spec_l07Table_o k hk nx) H
end Go.Proofs.YtlcddiojeghfgaaGreatDoor
