import Derived.Test.YtghmeeifjeafmaaGreatZ41
import Derived.Test.YtghmeeifjeafmaaGreatZ42
import Derived.Test.YtghmeeifjeafmaaGreatZ44
set_option linter.unusedVariables false
set_option linter.unusedSimpArgs false
namespace Go.Proofs.YtghmeeifjeafmaaGreat
open Nat (reduceAdd reduceSub reduceGT reduceEqDiff reduceMul)
def srcOk (bs:List Int) (sid:Nat) (G:HP):Prop:=∃a s,srOk bs a s∧G sid=some (srB bs a s)
def sK (bs:List Int) (sid nx:Nat) (H:HP) (Q:AV→Prop):Nat→HP→AV→Prop:=fun _ H' r=>Q r∧srcOk bs sid H'∧∀i,i<nx→i≠sid→H' i=H i
theorem srcOk.keep {bs:List Int} {sid:Nat} {G G':HP} (h:srcOk bs sid G) (hk:G' sid=G sid):srcOk bs sid G':=by
  obtain⟨a,s,h1,h2⟩:=h
  exact⟨a,s,h1,hk.trans h2⟩
theorem AC.zs {P:Program} {f:FuncId} {xs:List AV} {Q:AV→Prop} {nx sid:Nat} {H:HP} {bs:List Int} (hsn:sid<nx) (h:AC P f nx H xs (fun nx' H' r=>∃r2,Fz H' (blw nx H') r r2∧Q r2∧srcOk bs sid H'∧∀i,i<nx→i≠sid→H' i=H i)):AC P f nx H xs (sK bs sid nx H Q):=
  h.frz fun nx' H' r ⟨r2,g1,g2,g3,g4⟩=>⟨blw nx H',r2,FzH.blw,g1,g2,g3.keep (blw_lt hsn),fun i hi hne=>(blw_lt hi).trans (g4 i hi hne)⟩
def numQ (n:Int) (r:AV):Prop:=∃x,r= .i .i64 x∧0≤x∧(x<n∨x=0)
theorem spec_l01Next_s {bs:List Int} {sid:Nat} {H:HP} (hg:srcOk bs sid H) (n:Int) (hn:n≤1000000000) (nx:Nat):AC Tryz.prog 39 nx H [.q sid 0,.i .i64 n] (sK bs sid nx H (numQ n)):=by
  obtain⟨a,s,h1,h2⟩:=hg
  refine(spec_l01Next_o bs a s h1 n hn nx H sid h2).mono ?_
  rintro nx' H' r ⟨x,a',s',rfl,hx,ho,rfl⟩
  exact⟨⟨x,rfl,hx⟩,⟨a',s',ho,upd_same _ _ _⟩,fun i _ hne=>upd_ne _ _ hne⟩
theorem spec_l01Pick_o {bs:List Int} {sid lid:Nat} {H:HP} (hg:srcOk bs sid H) (vs:List Int) (n:Nat) (hl:H lid=some (vs.map (.i .i64))) (hn:vs.length=n) (h0:0<n) (h1:n≤1000) (nx:Nat) (hsn:sid<nx) (hln:lid<nx) (hne:lid≠sid):AC Tryz.prog 40 nx H [.q sid 0,.h lid 0 n] (fun nx' H' r=>∃r2,Fz H' (blw nx H') r r2∧(∃x,r2= .i .i64 x∧x∈vs)∧srcOk bs sid H'∧∀i,i<nx→i≠sid→H' i=H i):=by
 refine AC.introx envOk Tryz.func40 rfl (by kernel_rfl) Tryz.ntmps40 Tryz.results40 (fun hfr cX=>?_)
 refine AW.sr envOk (fun N hN=>?_);simp-dsimp-implicitDefEqProofs (disch:=omega)only[go_sem];refine hN _ ?_;try clear hN N
 refine AW.sr envOk (fun N hN=>?_);simp-dsimp-implicitDefEqProofs (disch:=omega)only[go_sem];refine(spec_l01Next_s hg n (by omega) _).mono2 ?_
 rintro m1 H1 r1 hm1 ⟨⟨x,rfl,hx⟩,hg1,hk1⟩
 have hl1:=(hk1 lid (by omega) hne).trans hl
 have hxn:x.toNat<vs.length:=by omega
 have hget:(vs.map (AV.i .i64)).getD x.toNat .j= .i .i64 (vs.getD x.toNat 0):=gd_i hxn
 try simp-dsimp-implicitDefEqProofs (disch:=omega)only[go_sem,hl1,hget,List.length_map,hn]
 refine hN _ ?_;try clear hN N
 refine AW.ret ?_;simp-dsimp-implicitDefEqProofs (disch:=omega)only[go_sem];exact⟨_,fun _ _ h=>h,_,.refl _,⟨_,rfl,by rw[List.getD_eq_getElem?_getD,List.getElem?_eq_getElem hxn];exact List.getElem_mem hxn⟩,hg1,fun i hi hne2=>hk1 i (by omega) hne2⟩
theorem spec_l01Pick_s {bs:List Int} {sid lid:Nat} {H:HP} (hg:srcOk bs sid H) (vs:List Int) (n:Nat) (hl:H lid=some (vs.map (.i .i64))) (hn:vs.length=n) (h0:0<n) (h1:n≤1000) (nx:Nat) (hsn:sid<nx) (hln:lid<nx) (hne:lid≠sid):AC Tryz.prog 40 nx H [.q sid 0,.h lid 0 n] (sK bs sid nx H (fun r=>∃x,r= .i .i64 x∧x∈vs)):=AC.zs hsn (spec_l01Pick_o hg vs n hl hn h0 h1 nx hsn hln hne)
theorem setAll_one {pre z:List AV} {y x:AV}:setAll (pre++y::z) (pre.length*1) [x]=pre++x::z:=by
  simp[setAll]
theorem fillA_lit:∀(xs pre z:List AV),(∀x∈xs,cellsA x=[x]∧okA x=true)→z.length=xs.length→fillA (fun i=>some (i*1,1)) (pre++z) ((xs.zipIdx pre.length).map fun p=>(p.2,p.1))=some (pre++xs):=by
  intro xs
  induction xs with
  |nil=>intro pre z _ hz;rw[List.length_eq_zero_iff.1 hz];simp[fillA]
  | cons x xs ih=>
    intro pre z hx hz
    cases z with
    |nil=>simp at hz
    | cons y z=>
      obtain⟨h1,h2⟩:=hx x (by simp)
      simp only[List.zipIdx_cons,List.map_cons,fillA]
      rw[h1,h2,if_neg (by simp),setAll_one]
      have:=ih (pre++[x]) z (fun w hw=>hx w (by simp[hw])) (by simpa using hz)
      simpa using this
theorem bsop_lit {Γ:TEnv} {ty el:TypeId} {e ee:TE} {n:Nat} {xs:List AV} {parts:List (Nat×AV)} {id:Nat} {k:AV→Option (List AV)→Prop} (h1:Γ ty=some e) (h2:e.d= .slice el) (h3:Γ el=some ee) (h4:(ee.size==1)=true) (h5:ee.zero.cells.size=1) (hn:xs.length=n) (hn2:n≤1000) (hx:∀x∈xs,cellsA x=[x]∧okA x=true) (hp:parts=(xs.zipIdx 0).map fun p=>(p.2,p.1)):bsop Γ ty n parts id k=k (.h id 0 n) (some xs):=by
  unfold bsop
  simp only[h1,h2,h3];rw[h4,ifS_true,hp]
  have:=fillA_lit xs [] (List.replicate n (ofV1 (ee.zero.cells.getD 0 undef))) hx (by simp[hn])
  rw[List.nil_append,List.nil_append,List.length_nil]at this
  rw[this]
  simp only[eq_iff_iff];exact⟨fun h=>h.2.2.2,fun h=>⟨h5,by omega,hn,h⟩⟩
theorem bs_i (n:Nat) (vs:List Int) (hn:vs.length=n) (hn2:n≤1000) {parts:List (Nat×AV)} {id:Nat} {k:AV→Option (List AV)→Prop} (hp:parts=((vs.map (AV.i .i64)).zipIdx 0).map fun p=>(p.2,p.1)):bsop env 24 n parts id k=k (.h id 0 n) (some (vs.map (.i .i64))):=
  bsop_lit rfl rfl rfl rfl rfl (by rw[List.length_map];exact hn) hn2 (fun x hx=>by obtain⟨v,_,rfl⟩:=List.mem_map.1 hx;exact⟨rfl,rfl⟩) hp
theorem bs_s (n:Nat) (vs:List ByteArray) (hn:vs.length=n) (hn2:n≤1000) {parts:List (Nat×AV)} {id:Nat} {k:AV→Option (List AV)→Prop} (hp:parts=((vs.map AV.s).zipIdx 0).map fun p=>(p.2,p.1)):bsop env 173 n parts id k=k (.h id 0 n) (some (vs.map .s)):=
  bsop_lit rfl rfl rfl rfl rfl (by rw[List.length_map];exact hn) hn2 (fun x hx=>by obtain⟨v,_,rfl⟩:=List.mem_map.1 hx;exact⟨rfl,rfl⟩) hp
theorem a_bs10s {P:Program} {dst:Option Nat} (b0 b1 b2 b3 b4 b5 b6 b7 b8 b9:ByteArray) (id:Nat) (s:St) (K:St→Prop):aop env P dst (.buildSlice 173 10 #[(0,.const (.string b0)),(1,.const (.string b1)),(2,.const (.string b2)),(3,.const (.string b3)),(4,.const (.string b4)),(5,.const (.string b5)),(6,.const (.string b6)),(7,.const (.string b7)),(8,.const (.string b8)),(9,.const (.string b9))]) id s K=K ⟨putA s.t dst (.h id 0 10),upd s.H id (some [.s b0,.s b1,.s b2,.s b3,.s b4,.s b5,.s b6,.s b7,.s b8,.s b9]),s.nx⟩:=by
  rw[a_bs]
  exact bs_s 10 [b0,b1,b2,b3,b4,b5,b6,b7,b8,b9] rfl (by omega) rfl
theorem a_bs11i {P:Program} {dst:Option Nat} (b0 b1 b2 b3 b4 b5 b6 b7 b8 b9 b10:Int) (id:Nat) (s:St) (K:St→Prop):aop env P dst (.buildSlice 24 11 #[(0,.const (.int .i64 b0)),(1,.const (.int .i64 b1)),(2,.const (.int .i64 b2)),(3,.const (.int .i64 b3)),(4,.const (.int .i64 b4)),(5,.const (.int .i64 b5)),(6,.const (.int .i64 b6)),(7,.const (.int .i64 b7)),(8,.const (.int .i64 b8)),(9,.const (.int .i64 b9)),(10,.const (.int .i64 b10))]) id s K=K ⟨putA s.t dst (.h id 0 11),upd s.H id (some [.i .i64 b0,.i .i64 b1,.i .i64 b2,.i .i64 b3,.i .i64 b4,.i .i64 b5,.i .i64 b6,.i .i64 b7,.i .i64 b8,.i .i64 b9,.i .i64 b10]),s.nx⟩:=by
  rw[a_bs]
  exact bs_i 11 [b0,b1,b2,b3,b4,b5,b6,b7,b8,b9,b10] rfl (by omega) rfl
theorem a_bs8i {P:Program} {dst:Option Nat} (b0 b1 b2 b3 b4 b5 b6 b7:Int) (id:Nat) (s:St) (K:St→Prop):aop env P dst (.buildSlice 24 8 #[(0,.const (.int .i64 b0)),(1,.const (.int .i64 b1)),(2,.const (.int .i64 b2)),(3,.const (.int .i64 b3)),(4,.const (.int .i64 b4)),(5,.const (.int .i64 b5)),(6,.const (.int .i64 b6)),(7,.const (.int .i64 b7))]) id s K=K ⟨putA s.t dst (.h id 0 8),upd s.H id (some [.i .i64 b0,.i .i64 b1,.i .i64 b2,.i .i64 b3,.i .i64 b4,.i .i64 b5,.i .i64 b6,.i .i64 b7]),s.nx⟩:=by
  rw[a_bs]
  exact bs_i 8 [b0,b1,b2,b3,b4,b5,b6,b7] rfl (by omega) rfl
theorem a_bs5i {P:Program} {dst:Option Nat} (b0 b1 b2 b3 b4:Int) (id:Nat) (s:St) (K:St→Prop):aop env P dst (.buildSlice 24 5 #[(0,.const (.int .i64 b0)),(1,.const (.int .i64 b1)),(2,.const (.int .i64 b2)),(3,.const (.int .i64 b3)),(4,.const (.int .i64 b4))]) id s K=K ⟨putA s.t dst (.h id 0 5),upd s.H id (some [.i .i64 b0,.i .i64 b1,.i .i64 b2,.i .i64 b3,.i .i64 b4]),s.nx⟩:=by
  rw[a_bs]
  exact bs_i 5 [b0,b1,b2,b3,b4] rfl (by omega) rfl
def tabT:List (List UInt8):=[[49],
  [50],
  [50,32,50,59,32,97,94,50,61,98],
  [50,32,51,59,32,98,94,97,61,98,98],
  [51,32,50,32,50,59,32,98,94,97,61,99,59,32,99,94,97,61,98,99],
  [50,32,51,32,50,32,50,59,32,98,94,97,61,98,98,59,32,99,94,97,61,100,59,32,100,94,97,61,99,59,32,99,94,98,61,100,59,32,100,94,98,61,99,100],
  [51,32,50,32,50,32,50,59,32,98,94,50,61,100,59,32,99,94,50,61,100,59,32,98,94,97,61,99,59,32,99,94,97,61,98,99,59,32,99,94,98,61,99,100],
  [50,32,50,32,50,59,32,97,94,50,61,99,59,32,98,94,50,61,99,59,32,98,94,97,61,98,99],
  [50,32,50,32,50,59,32,98,94,97,61,98,99],
  [50,32,50,32,50,32,50,59,32,99,94,97,61,99,100,59,32,99,94,98,61,99,100]]
theorem tabT_cells:[AV.s ⟨#[49]⟩,AV.s ⟨#[50]⟩,AV.s ⟨#[50,32,50,59,32,97,94,50,61,98]⟩,AV.s ⟨#[50,32,51,59,32,98,94,97,61,98,98]⟩,AV.s ⟨#[51,32,50,32,50,59,32,98,94,97,61,99,59,32,99,94,97,61,98,99]⟩,AV.s ⟨#[50,32,51,32,50,32,50,59,32,98,94,97,61,98,98,59,32,99,94,97,61,100,59,32,100,94,97,61,99,59,32,99,94,98,61,100,59,32,100,94,98,61,99,100]⟩,AV.s ⟨#[51,32,50,32,50,32,50,59,32,98,94,50,61,100,59,32,99,94,50,61,100,59,32,98,94,97,61,99,59,32,99,94,97,61,98,99,59,32,99,94,98,61,99,100]⟩,AV.s ⟨#[50,32,50,32,50,59,32,97,94,50,61,99,59,32,98,94,50,61,99,59,32,98,94,97,61,98,99]⟩,AV.s ⟨#[50,32,50,32,50,59,32,98,94,97,61,98,99]⟩,AV.s ⟨#[50,32,50,32,50,32,50,59,32,99,94,97,61,99,100,59,32,99,94,98,61,99,100]⟩]=tabT.map fun l=>AV.s (ofL l):=rfl
theorem tab_ok:((List.range 10).map fun k=>(ppS (tabT.getD k [])).isSome)=List.replicate 10 true:=by kernel_rfl
theorem tab_at {k:Nat} (hk:k<10):∃s,ppS (tabT.getD k [])=some s:=by
  have h:(ppS (tabT.getD k [])).isSome=true:=by
    have:=congrArg (fun l=>l[k]?) tab_ok
    simp only[List.getElem?_map,List.getElem?_range hk,List.getElem?_replicate,if_pos hk,Option.map_some]at this
    exact Option.some.inj this
  exact Option.isSome_iff_exists.1 h
theorem tab_len:∀l∈tabT,l.length≤100:=by decide
theorem presOk.shB {os:List Int} {X:List (List Int)} {Y:List (List (List Int))} (h:presOk os X Y):ShB 12 os X Y:=by
  obtain⟨⟨h1,h2,h3⟩,h4,h5,h6⟩:=h
  have mem:∀{α:Type} (xs:List α) (d x:α),x∈xs→∃i,i<xs.length∧xs.getD i d=x:=fun xs d x hx=>by
    obtain⟨i,hi,e⟩:=List.mem_iff_getElem.1 hx
    exact⟨i,hi,by simp[hi,e]⟩
  refine⟨by omega,h2,h3,fun k hk=>by have:=(h6 k hk).2.1;omega,fun x hx=>?_,fun y hy x hx=>?_,fun x hx=>?_⟩
  · obtain⟨i,hi,rfl⟩:=mem _ [] x hx
    have:=(h6 i (by omega)).1.1;omega
  · obtain⟨i,hi,rfl⟩:=mem _ [] y hy
    obtain⟨k,hk,rfl⟩:=mem _ [] x hx
    have:=((h6 i (by omega)).2.2 k hk).1;omega
  obtain⟨i,hi,rfl⟩:=mem _ 0 x hx
  have:=pr4_bd (h4 i hi);omega
set_option maxHeartbeats 2000000 in
theorem spec_l07Table_o (k:Nat) (hk:k<10):∀nx,AC Tryz.prog 147 nx noH [.i .i64 k] (fun nx' H' r=>∃r2,Fz H' (blw nx H') r r2∧preQ 12 r2):=by
 obtain⟨s2,hs2⟩:=tab_at hk
 have hpo:=(ppS_ok hs2).1.shB
 have hkm:((k:Int).tmod 10).toNat=k:=by rw[Int.tmod_eq_emod_of_nonneg (by omega)];omega
 have hk0:(0≤(k:Int).tmod 10)=True:=eq_true (by rw[Int.tmod_eq_emod_of_nonneg (by omega)];omega)
 have hgt:(tabT.map fun l=>AV.s (ofL l)).getD k .j= .s (ofL (tabT.getD k [])):=by rw[List.getD_eq_getElem?_getD,List.getElem?_map,List.getElem?_eq_getElem (show k<tabT.length from hk),List.getD_eq_getElem?_getD,List.getElem?_eq_getElem (show k<tabT.length from hk)];rfl
 have htl:(tabT.getD k []).length≤100:=getD_all (p:=fun l:List UInt8=>l.length≤100) tab_len (by simp) k
 intro nx
 refine AC.intro' envOk Tryz.func147 rfl (by kernel_rfl) Tryz.ntmps147 Tryz.results147 (fun cX=>?_)
 refine AW.sr envOk (fun N hN=>?_);simp-dsimp-implicitDefEqProofs (disch:=omega)only[go_sem,prs];refine hN _ ?_;try clear hN N
 refine AW.seq (fun N hN=>?_);refine AW.regionL envOk ?_;generalize hb0:(⟨#[49]⟩:ByteArray)=b0
 generalize hb1:(⟨#[50]⟩:ByteArray)=b1
 generalize hb2:(⟨#[50,32,50,59,32,97,94,50,61,98]⟩:ByteArray)=b2
 generalize hb3:(⟨#[50,32,51,59,32,98,94,97,61,98,98]⟩:ByteArray)=b3
 generalize hb4:(⟨#[51,32,50,32,50,59,32,98,94,97,61,99,59,32,99,94,97,61,98,99]⟩:ByteArray)=b4
 generalize hb5:(⟨#[50,32,51,32,50,32,50,59,32,98,94,97,61,98,98,59,32,99,94,97,61,100,59,32,100,94,97,61,99,59,32,99,94,98,61,100,59,32,100,94,98,61,99,100]⟩:ByteArray)=b5
 generalize hb6:(⟨#[51,32,50,32,50,32,50,59,32,98,94,50,61,100,59,32,99,94,50,61,100,59,32,98,94,97,61,99,59,32,99,94,97,61,98,99,59,32,99,94,98,61,99,100]⟩:ByteArray)=b6
 generalize hb7:(⟨#[50,32,50,32,50,59,32,97,94,50,61,99,59,32,98,94,50,61,99,59,32,98,94,97,61,98,99]⟩:ByteArray)=b7
 generalize hb8:(⟨#[50,32,50,32,50,59,32,98,94,97,61,98,99]⟩:ByteArray)=b8
 generalize hb9:(⟨#[50,32,50,32,50,32,50,59,32,99,94,97,61,99,100,59,32,99,94,98,61,99,100]⟩:ByteArray)=b9
 have hsel:[AV.s b0,AV.s b1,AV.s b2,AV.s b3,AV.s b4,AV.s b5,AV.s b6,AV.s b7,AV.s b8,AV.s b9].getD k .j= .s (ofL (tabT.getD k [])):=by
  rw[←hgt,←tabT_cells,hb0,hb1,hb2,hb3,hb4,hb5,hb6,hb7,hb8,hb9]
 clear hb0 hb1 hb2 hb3 hb4 hb5 hb6 hb7 hb8 hb9
 simp-dsimp-implicitDefEqProofs (disch:=omega)only[↓a_bs10s,go_sem,undef,hkm,hk0,hsel,w64,prs]
 refine hN _ ?_;try clear hN N
 refine AW.sr envOk (fun N hN=>?_);simp-dsimp-implicitDefEqProofs (disch:=omega)only[go_sem,prs];refine AC.pure (.of (spec_ParsePresentation_ok (tabT.getD k []) s2 (by omega) hs2)) ?_;try simp-dsimp-implicitDefEqProofs (disch:=omega)only[go_sem,prs]
 refine hN _ ?_;try clear hN N
 refine AW.seq (fun N1 hN1=>?_);refine AW.sr envOk (fun N hN=>?_);simp-dsimp-implicitDefEqProofs (disch:=omega)only[go_sem,prs];refine hN _ ?_;try clear hN N
 refine AW.cond rfl (fun h1=>?_) (fun h1=>?_)
 ·try simp only[cn]at h1
  simp at h1
 try simp only[cn]at h1
 refine AW.skip ?_;simp only[thn,blk];refine hN1 _ ?_;try clear hN1 N1
 refine AW.sr envOk (fun N hN=>?_);simp-dsimp-implicitDefEqProofs (disch:=omega)only[go_sem,prs];refine hN _ ?_;try clear hN N
 refine AW.ret ?_;simp-dsimp-implicitDefEqProofs (disch:=omega)only[go_sem];exact⟨_,.refl _,s2.1,s2.2.1,s2.2.2,rfl,hpo⟩
theorem spec_l07Table_z (k:Nat) (hk:k<10) (nx:Nat) (H:HP):AC Tryz.prog 147 nx H [.i .i64 k] (zK nx H (preQ 12)):=AC.zz (spec_l07Table_o k hk nx) H
open Nat (reduceAdd reduceSub reduceGT reduceEqDiff reduceMul)
theorem FzH.cellx {H:HP} {i j n k:Nat} {cs ds:List AV} (h1:H i=some cs) (hk:cs[k]? =some (.h j 0 n)) (h2:H j=some ds) (hn:ds.length=n) (hij:i≠j):FzH H (upd (upd H j none) i (some (cs.set k (.v n ds)))):=by
  intro l cs' hl
  by_cases e:l=i
  · subst e
    rw[upd_same]at hl;cases hl
    refine⟨_,h1,by simp,fun q x y hx hy=>?_⟩
    rw[List.getElem?_set]at hy
    split at hy
    · rename_i hq
      subst hq
      rw[hk]at hx;cases hx
      split at hy
      · cases hy
        exact .h j 0 n ds ds h2 (by rw[upd_ne _ _ (Ne.symm hij),upd_same]) (by omega) hn (fun q x y h1 h2=>by rw[Nat.zero_add,h2]at h1;cases h1;exact .refl _)
      cases hy
    rw[hx]at hy;cases hy;exact .refl _
  rw[upd_ne _ _ e]at hl
  by_cases e2:l=j
  · subst e2;rw[upd_same]at hl;cases hl
  rw[upd_ne _ _ e2]at hl
  exact⟨cs',hl,rfl,fun q x y h1 h2=>by rw[h1]at h2;cases h2;exact .refl _⟩
theorem AW.fzcellx {cX:Ctx} {P:Program} {c:Code} {s:St} {K:Exit→St→Prop} (i j n k:Nat) (cs ds:List AV) (h1:s.H i=some cs) (hk:cs[k]? =some (.h j 0 n)) (h2:s.H j=some ds) (hn:ds.length=n) (hij:i≠j)
    (hs:AW cX P c ⟨s.t,upd (upd s.H j none) i (some (cs.set k (.v n ds))),s.nx⟩ K):AW cX P c s K:=
  AW.fz (s':=⟨s.t,upd (upd s.H j none) i (some (cs.set k (.v n ds))),s.nx⟩) ⟨fzs_refl,FzH.cellx h1 hk h2 hn hij,Nat.le_refl _⟩ hs
theorem BxP.setP2 {N lo m bx k:Nat} {os:List Int} {P B:AV} {bc:List AV} {X:List (List Int)} {Y:List (List (List Int))} {G:HP} (h:BxP N lo m bx os P B bc X Y G) (hk:k<os.length):
    ∃p,P= .h p 0 os.length∧G bx=some [ints os,.h p 0 os.length,B]∧G p=some (X.map ints)∧(X.map ints).length=os.length∧(lo≤p∧p<m)∧∀(G':HP) (w:List Int) (m':Nat),w.length≤6*N→m≤m'→G' p=some ((X.map ints).set k (ints w))→(∀j,j<m→j≠p→G' j=G j)→BxP N lo m' bx os P B bc (X.set k w) Y G':=by
  obtain⟨h1,h2,h3,h4⟩:=h
  obtain⟨p,e,g1,g2,g3⟩:=h2.setP (k:=k) (by rw[h3.p];exact hk)
  rw[h3.p]at e
  refine⟨p,e,by rw[h1,e],g1,by rw[List.length_map,h3.p],g2,fun G' w m' hw hm hp hke=>⟨?_,g3 _ w lo m' (by rw[hp,splice_one _ _ _ (by rw[List.length_map,h3.p];exact hk)]) (fun j _ hj hne=>hke j hj hne) (Nat.le_refl _) hm,h3.setP hw,h4⟩⟩
  rw[hke bx (by omega) (by omega),h1]
theorem BxP.setB2 {N lo m bx k l:Nat} {os:List Int} {P B:AV} {bc:List AV} {X:List (List Int)} {Y:List (List (List Int))} {G:HP} (h:BxP N lo m bx os P B bc X Y G) (hk:k<os.length) (hl:l<os.length-1-k):
    ∃ b q,B= .h b 0 os.length∧G bx=some [ints os,P,.h b 0 os.length]∧G b=some bc∧bc.length=os.length∧(lo≤b∧b<m)∧bc.getD k .j= .h q 0 (os.length-1-k)∧G q=some ((Y.getD k []).map ints)∧((Y.getD k []).map ints).length=os.length-1-k∧(lo≤q∧q<m)∧b≠q∧
      ∀(G':HP) (w:List Int) (m':Nat),w.length≤6*N→m≤m'→G' q=some (((Y.getD k []).map ints).set l (ints w))→(∀j,j<m→j≠q→G' j=G j)→BxP N lo m' bx os P B bc X (Y.set k ((Y.getD k []).set l w)) G':=by
  obtain⟨h1,h2,h3,h4⟩:=h
  have hr:=h3.r k hk
  obtain⟨b,q,e,g1,g2,_,g4,g5,g6,g7,g8⟩:=h2.setB (k:=k) (l:=l) (by rw[h3.c];exact hk) (by omega)
  rw[h3.c]at e
  rw[hr]at g4
  refine⟨b,q,e,by rw[h1,e],g1,by rw[h2.bl,h3.c],g2,g4,g5,by rw[List.length_map,hr],g6,g7,fun G' w m' hw hm hp hke=>⟨?_,g8 _ w lo m' (by rw[hp,splice_one _ _ _ (by rw[List.length_map,hr];exact hl)]) (fun j _ hj hne=>hke j hj hne) (Nat.le_refl _) hm,h3.setB hw,h4⟩⟩
  rw[hke bx (by omega) (by omega),h1]
theorem BxP.keepS {N lo m m' bx sid:Nat} {os:List Int} {P B:AV} {bc:List AV} {X:List (List Int)} {Y:List (List (List Int))} {G G':HP} (h:BxP N lo m bx os P B bc X Y G) (hk:∀i,i<m→i≠sid→G' i=G i) (hs:sid<bx) (hlm:lo≤m) (hm:m≤m'):BxP N lo m' bx os P B bc X Y G':=by
  have:=h.lt
  exact⟨(hk bx (by omega) (by omega)).trans h.cl,h.rg.keep (fun i hi1 hi=>hk i hi (by omega)) (Nat.le_refl _) hm,h.sh,h.lt⟩
theorem mkS {N:St→Prop} {C:Nat→HP→Int→Prop} {S:Nat→HP→Int→St} {G:Prop} (h1:(∀m H x,C m H x→N (S m H x))→G) (h2:∀m H x,C m H x→N (S m H x)):G:=h1 h2
theorem set_at {cs:List AV} {k:Nat} {x y:AV} (h:k<cs.length):(splice cs k [x])[k]? =some x∧(splice cs k [x]).set k y=cs.set k y:=by
  rw[splice_one _ _ _ h]
  exact⟨by simp[h],by simp⟩
set_option maxHeartbeats 4000000 in
theorem spec_l07Heisenberg_o {bs:List Int} {sid:Nat} {H:HP} (hg:srcOk bs sid H) (pr:Int) (hp:2≤pr∧pr≤7) (nx:Nat) (hsn:sid<nx):AC Tryz.prog 145 nx H [.q sid 0,.i .i64 pr] (fun nx' H' r=>∃r2,Fz H' (blw nx H') r r2∧preQ 12 r2∧srcOk bs sid H'∧∀i,i<nx→i≠sid→H' i=H i):=by
 obtain⟨os,hos⟩:∃os,[pr,pr,pr]=os:=⟨_,rfl⟩
 have hol:os.length=3:=by rw[←hos];rfl
 have hob:∀x∈os,-1000≤x∧x≤1000:=fun x hx=>by rw[←hos]at hx;simp at hx;omega
 refine AC.introx envOk Tryz.func145 rfl (by kernel_rfl) Tryz.ntmps145 Tryz.results145 (fun hfr cX=>?_)
 refine AW.sr envOk (fun N hN=>?_);simp-dsimp-implicitDefEqProofs (disch:=omega)only[go_sem,prs];refine hN _ ?_;try clear hN N
 refine AW.sr envOk (fun N hN=>?_);simp-dsimp-implicitDefEqProofs (disch:=omega)only[go_sem,prs];refine(spec_l07Trivial_rg os (by omega) _ (.cons (vw_own (os:=os) (by rw[←hos];exact upd_same _ _ _) hol) .nil)).mono2 ?_
 intro m1 H1 r1 hm1 hrg
 obtain⟨P,B,bc,rfl,hP1,hB1,hlow1,hbx⟩:=BxP.start (N:=12) (bx:=nx+1+5) hrg (by omega) (by omega) hob (by omega)
 try simp-dsimp-implicitDefEqProofs (disch:=omega)only[go_sem,hP1,hB1,ints,Bool.and_true]
 refine hN _ ?_;try clear hN N
 refine AW.nameH (fun G1 hG1=>?_);dsimp only at hG1
 replace hbx:BxP 12 (nx+1+7) m1 (nx+1+5) os P B bc (trP os.length) (trC os.length) G1:=by rw[←hG1];exact hbx
 have hl1:∀i,i<nx+1→G1 i=upd H nx (some [.nl,.nl,.nl]) i:=fun i hi=>by rw[←hG1,upd_ne _ _ (by omega),hlow1 i (by omega),upd_ne _ _ (by omega)]
 obtain⟨b,q,hBe,hbb,hb1,hb2,hb3,hq0,hq1,hq2,hq3,hbq,hput⟩:=hbx.setB2 (k:=0) (l:=0) (by omega) (by omega)
 refine AW.sr envOk (fun N hN=>?_);simp-dsimp-implicitDefEqProofs (disch:=omega)only[go_sem,prs,hbb,hb1,hb2,hq0,hq1,hq2];refine hN _ ?_;try clear hN N
 refine AW.seq (fun N1 hN1=>?_);refine AW.fzcellx q (m1+4) 3 0 (splice (((trC os.length).getD 0 []).map ints) 0 [.h (m1+4) 0 3]) [.i .i64 0,.i .i64 1,.i .i64 1] (upd_same _ _ _) (set_at (y:= .nl) (by omega)).1 ((upd_ne _ _ (by omega)).trans (upd_same _ _ _)) rfl (by omega) ?_
 refine AW.nameH (fun G2 hG2=>?_);dsimp only at hG2
 replace hbx:=hput G2 [0,1,1] (m1+7) (by simp) (by omega) (by rw[←hG2,upd_same,(set_at (by omega)).2];rfl) (fun j hj hne=>by rw[←hG2,upd_ne _ _ hne,upd_ne _ _ (by omega),upd_ne _ _ hne,upd_ne _ _ (by omega)])
 have hl2:∀i,i<nx+1→G2 i=upd H nx (some [.nl,.nl,.nl]) i:=fun i hi=>by rw[←hl1 i hi,←hG2,upd_ne _ _ (by omega),upd_ne _ _ (by omega),upd_ne _ _ (by omega),upd_ne _ _ (by omega)]
 have hgs:srcOk bs sid G2:=hg.keep ((hl2 sid (by omega)).trans (upd_ne _ _ (by omega)))
 simp-dsimp-implicitDefEqProofs (disch:=omega)only[go_sem];refine AW.sr envOk (fun N hN=>?_);simp-dsimp-implicitDefEqProofs (disch:=omega)only[go_sem,prs];refine(spec_l01Next_s hgs 2 (by omega) _).mono2 ?_
 rintro m2 H2 r2 hm2 ⟨⟨x,rfl,hx⟩,hg2,hk2⟩
 replace hbx:=hbx.keepS (G':=H2) (m':=m2) (fun i hi hne=>hk2 i (by omega) hne) (by omega) (by omega) (by omega)
 have hl3:∀i,i<nx+1→i≠sid→H2 i=upd H nx (some [.nl,.nl,.nl]) i:=fun i hi hne=>(hk2 i (by omega) hne).trans (hl2 i hi)
 try simp-dsimp-implicitDefEqProofs (disch:=omega)only[go_sem,prs]
 refine hN _ ?_;try clear hN N
 refine AW.cond rfl (fun h1=>?_) (fun h1=>?_)
 ·try simp only[cn]at h1
  obtain⟨p,hPe,hbp,hp1,hp2,hp3,hput⟩:=hbx.setP2 (k:=0) (by omega)
  refine AW.seq (fun N hN=>?_);apply mkS (N:=N)
  ·intro key
   refine AW.drawT envOk (by kernel_rfl) [true,false,true,true,false,false,false,false] (.br 1 (.br 4 (.br 5 (.br 6 (.br 7 .nil .nil) .nil) .nil) .nil) (.br 4 (.br 1 (.br 5 (.br 6 (.br 7 .nil .nil) .nil) .nil) (.br 5 (.br 1 (.br 6 (.br 7 .nil .nil) .nil) .nil) .nil)) .nil)) (by kernel_rfl) ?_
   simp-dsimp-implicitDefEqProofs (disch:=omega)only[go_sem,prs,hbp,hp1,hp2];refine⟨?_,?_⟩
   all_goals
    refine(spec_l01Next_s hg2 pr (by omega) _).mono2 ?_
    rintro m3 H3 r3 hm3 ⟨⟨x3,rfl,hx3⟩,hg3,hk3⟩
    have hp4:=(hk3 p (by omega) (by omega)).trans hp1
    have hb4:=(hk3 (nx+1+5) (by omega) (by omega)).trans hbp
    try simp-dsimp-implicitDefEqProofs (disch:=omega)only[go_sem,prs,hp4,hp2,hb4,and_self]
    exact key m3 H3 x3 (And.intro hm3 (And.intro hg3 hk3))
  intro m3 H3 x3 hC
  obtain⟨hm3,hg3,hk3⟩:=hC
  replace hbx:=hbx.keepS (G':=H3) (m':=m2) (fun i hi hne=>hk3 i (by omega) hne) (by omega) (by omega) (by omega)
  obtain⟨p',hPe',-,-,-,-,hput2⟩:=hbx.setP2 (k:=0) (by omega)
  obtain rfl:p'=p:=by rw[hPe]at hPe';injection hPe' with e;exact e.symm
  refine hN _ ?_;try clear hN N
  refine AW.fzcellx p' (m2+5) 3 0 (splice ((trP os.length).map ints) 0 [.h (m2+5) 0 3]) [.i .i64 0,.i .i64 0,.i .i64 x3] (upd_same _ _ _) (set_at (y:= .nl) (by omega)).1 ((upd_ne _ _ (by omega)).trans (upd_same _ _ _)) rfl (by omega) ?_
  refine AW.nameH (fun G4 hG4=>?_);dsimp only at hG4
  replace hbx:=hput2 G4 [0,0,x3] m3 (by simp) (by omega) (by rw[←hG4,upd_same,(set_at (by omega)).2];rfl) (fun j hj hne=>by rw[←hG4,upd_ne _ _ hne,upd_ne _ _ (by omega),upd_ne _ _ hne,upd_ne _ _ (by omega)])
  have hl4:∀i,i<nx+1→i≠sid→G4 i=upd H nx (some [.nl,.nl,.nl]) i:=fun i hi hne=>by rw[←hl3 i hi hne,←hk3 i (by omega) hne,←hG4,upd_ne _ _ (by omega),upd_ne _ _ (by omega),upd_ne _ _ (by omega),upd_ne _ _ (by omega)]
  have hg4:srcOk bs sid G4:=hg3.keep (by rw[←hG4,upd_ne _ _ (by omega),upd_ne _ _ (by omega),upd_ne _ _ (by omega),upd_ne _ _ (by omega)])
  obtain⟨p,hPe,hbp,hp1,hp2,hp3,hput⟩:=hbx.setP2 (k:=1) (by omega)
  simp-dsimp-implicitDefEqProofs (disch:=omega)only[go_sem];refine AW.name (fun N hN=>?_);apply mkS (N:=N)
  ·intro key
   refine AW.drawT envOk (by kernel_rfl) [true,false,true,true,false,false,false,false] (.br 1 (.br 4 (.br 5 (.br 6 (.br 7 .nil .nil) .nil) .nil) .nil) (.br 4 (.br 1 (.br 5 (.br 6 (.br 7 .nil .nil) .nil) .nil) (.br 5 (.br 1 (.br 6 (.br 7 .nil .nil) .nil) .nil) .nil)) .nil)) (by kernel_rfl) ?_
   simp-dsimp-implicitDefEqProofs (disch:=omega)only[go_sem,prs,hbp,hp1,hp2];refine⟨?_,?_⟩
   all_goals
    refine(spec_l01Next_s hg4 pr (by omega) _).mono2 ?_
    rintro m5 H5 r5 hm5 ⟨⟨x5,rfl,hx5⟩,hg5,hk5⟩
    have hp4:=(hk5 p (by omega) (by omega)).trans hp1
    have hb4:=(hk5 (nx+1+5) (by omega) (by omega)).trans hbp
    try simp-dsimp-implicitDefEqProofs (disch:=omega)only[go_sem,prs,hp4,hp2,hb4,and_self]
    exact key m5 H5 x5 (And.intro hm5 (And.intro hg5 hk5))
  intro m5 H5 x5 hC
  obtain⟨hm5,hg5,hk5⟩:=hC
  replace hbx:=hbx.keepS (G':=H5) (m':=m3) (fun i hi hne=>hk5 i (by omega) hne) (by omega) (by omega) (by omega)
  obtain⟨p',hPe',-,-,-,-,hput2⟩:=hbx.setP2 (k:=1) (by omega)
  obtain rfl:p'=p:=by rw[hPe]at hPe';injection hPe' with e;exact e.symm
  refine hN _ ?_;simp only[thn,blk];refine hN1 _ ?_;try clear hN1 N1
  first|refine AW.fzcellx p' (m3+5) 3 1 (splice (((trP os.length).set 0 [0,0,x3]).map ints) 1 [.h (m3+5) 0 3]) [.i .i64 0,.i .i64 0,.i .i64 x5] (upd_same _ _ _) (set_at (y:= .nl) (by omega)).1 ((upd_ne _ _ (by omega)).trans (upd_same _ _ _)) rfl (by omega) ?_|skip
  refine AW.nameH (fun G6 hG6=>?_);dsimp only at hG6
  obtain⟨M,X6,hb6,hg6,hl6⟩:∃M X6,BxP 12 (nx+1+7) M (nx+1+5) os P B bc X6 ((trC os.length).set 0 (((trC os.length).getD 0 []).set 0 [0,1,1])) G6∧srcOk bs sid G6∧∀i,i<nx+1→i≠sid→G6 i=upd H nx (some [.nl,.nl,.nl]) i:=by
   first
   |exact⟨m5,_,hput2 G6 [0,0,x5] m5 (by simp) (by omega) (by rw[←hG6,upd_same,(set_at (by omega)).2];rfl) (fun j hj hne=>by rw[←hG6,upd_ne _ _ hne,upd_ne _ _ (by omega),upd_ne _ _ hne,upd_ne _ _ (by omega)]),hg5.keep (by rw[←hG6,upd_ne _ _ (by omega),upd_ne _ _ (by omega),upd_ne _ _ (by omega),upd_ne _ _ (by omega)]),fun i hi hne=>by rw[←hl4 i hi hne,←hk5 i (by omega) hne,←hG6,upd_ne _ _ (by omega),upd_ne _ _ (by omega),upd_ne _ _ (by omega),upd_ne _ _ (by omega)]⟩
   |exact⟨m2,_,by rw[←hG6];exact hbx,by rw[←hG6];exact hg2,fun i hi hne=>by rw[←hG6];exact hl3 i hi hne⟩
  have hbb:=hb6.cl
  have h60:=(hl6 nx (by omega) (by omega)).trans (upd_same _ _ _)
  simp-dsimp-implicitDefEqProofs (disch:=omega)only[go_sem];refine AW.sr envOk (fun N hN=>?_);simp-dsimp-implicitDefEqProofs (disch:=omega)only[go_sem,prs,hbb,h60,hb6.ones.1,hb6.ones.2];refine hN _ ?_;try clear hN N
  refine AW.ret ?_;simp-dsimp-implicitDefEqProofs (disch:=omega)only[go_sem];exact⟨_,fun _ _ h=>h,_,hb6.fz (fun i hi=>upd_ne _ _ (by omega)) (by omega),⟨os,_,_,rfl,hb6.sh⟩,hg6.keep (upd_ne _ _ (by omega)),fun i hi hne=>by rw[upd_ne _ _ (by omega),hl6 i (by omega) hne,upd_ne _ _ (by omega)]⟩
 try simp only[cn]at h1
 refine AW.skip ?_;simp only[thn,blk];refine hN1 _ ?_;try clear hN1 N1
 first|refine AW.fzcellx p' (m3+5) 3 1 (splice (((trP os.length).set 0 [0,0,x3]).map ints) 1 [.h (m3+5) 0 3]) [.i .i64 0,.i .i64 0,.i .i64 x5] (upd_same _ _ _) (set_at (y:= .nl) (by omega)).1 ((upd_ne _ _ (by omega)).trans (upd_same _ _ _)) rfl (by omega) ?_|skip
 refine AW.nameH (fun G6 hG6=>?_);dsimp only at hG6
 obtain⟨M,X6,hb6,hg6,hl6⟩:∃M X6,BxP 12 (nx+1+7) M (nx+1+5) os P B bc X6 ((trC os.length).set 0 (((trC os.length).getD 0 []).set 0 [0,1,1])) G6∧srcOk bs sid G6∧∀i,i<nx+1→i≠sid→G6 i=upd H nx (some [.nl,.nl,.nl]) i:=by
  first
  |exact⟨m5,_,hput2 G6 [0,0,x5] m5 (by simp) (by omega) (by rw[←hG6,upd_same,(set_at (by omega)).2];rfl) (fun j hj hne=>by rw[←hG6,upd_ne _ _ hne,upd_ne _ _ (by omega),upd_ne _ _ hne,upd_ne _ _ (by omega)]),hg5.keep (by rw[←hG6,upd_ne _ _ (by omega),upd_ne _ _ (by omega),upd_ne _ _ (by omega),upd_ne _ _ (by omega)]),fun i hi hne=>by rw[←hl4 i hi hne,←hk5 i (by omega) hne,←hG6,upd_ne _ _ (by omega),upd_ne _ _ (by omega),upd_ne _ _ (by omega),upd_ne _ _ (by omega)]⟩
  |exact⟨m2,_,by rw[←hG6];exact hbx,by rw[←hG6];exact hg2,fun i hi hne=>by rw[←hG6];exact hl3 i hi hne⟩
 have hbb:=hb6.cl
 have h60:=(hl6 nx (by omega) (by omega)).trans (upd_same _ _ _)
 simp-dsimp-implicitDefEqProofs (disch:=omega)only[go_sem];refine AW.sr envOk (fun N hN=>?_);simp-dsimp-implicitDefEqProofs (disch:=omega)only[go_sem,prs,hbb,h60,hb6.ones.1,hb6.ones.2];refine hN _ ?_;try clear hN N
 refine AW.ret ?_;simp-dsimp-implicitDefEqProofs (disch:=omega)only[go_sem];exact⟨_,fun _ _ h=>h,_,hb6.fz (fun i hi=>upd_ne _ _ (by omega)) (by omega),⟨os,_,_,rfl,hb6.sh⟩,hg6.keep (upd_ne _ _ (by omega)),fun i hi hne=>by rw[upd_ne _ _ (by omega),hl6 i (by omega) hne,upd_ne _ _ (by omega)]⟩
theorem spec_l07Heisenberg_s {bs:List Int} {sid:Nat} {H:HP} (hg:srcOk bs sid H) (pr:Int) (hp:2≤pr∧pr≤7) (nx:Nat) (hsn:sid<nx):AC Tryz.prog 145 nx H [.q sid 0,.i .i64 pr] (sK bs sid nx H (preQ 12)):=AC.zs hsn (spec_l07Heisenberg_o hg pr hp nx hsn)
end Go.Proofs.YtghmeeifjeafmaaGreat
