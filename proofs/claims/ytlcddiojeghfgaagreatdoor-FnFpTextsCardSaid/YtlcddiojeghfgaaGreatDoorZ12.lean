import Derived.Test.YtlcddiojeghfgaaGreatDoorZ11
set_option linter.unusedVariables false
set_option linter.unusedSimpArgs false
namespace Go.Proofs.YtlcddiojeghfgaaGreatDoor
open Nat (reduceAdd reduceSub reduceGT reduceEqDiff reduceMul)
theorem spec_l01Zero_ok (a:List Int) (ha':a.length≤1099511627776):ACp Tryz.prog 119 [ints a] (.b (tf (zeros a))):=by
 refine ACp.intro' envOk Tryz.func119 rfl (by kernel_rfl) Tryz.ntmps119 Tryz.results119 (.b _) (fun nx cX=> ?_)
 refine AW.sr envOk (fun N hN=> ?_)
 simp-dsimp-implicitDefEqProofs (disch:=omega) only[go_sem,undef,ints,gd_i,w64]
 refine hN _ ?_
 try clear hN N
 refine AW.seq (fun N1 hN1=> ?_)
 refine AW.sr envOk (fun N hN=> ?_)
 simp-dsimp-implicitDefEqProofs (disch:=omega) only[go_sem,undef,ints,gd_i,w64]
 refine hN _ ?_
 try clear hN N
 refine AW.block ?_
 refine AW.loopN (α:=Nat) (fun x=>sl 15 [(0,ints a),(3,.i .i64 x)]) (fun _=>noH) (fun x m=>x≤a.length∧∀j,j<x→a.getD j 0=0) (fun x=>a.length-x) (0) ?_ ?_ (fun _ _ h=>h) ?_
 ·exact⟨by omega,by intro j hj;omega⟩
 ·simp(disch:=omega) [wks,wkA,sl,w64,ints,rows,cubes,ints,gd_i,w64]<;>omega
 ·skip
  rintro k m ⟨hk,hI⟩
  simp-dsimp-implicitDefEqProofs (disch:=omega) only[go_sem,undef]
  refine AW.seq (fun N2 hN2=> ?_)
  refine AW.sr envOk (fun N hN=> ?_)
  simp-dsimp-implicitDefEqProofs (disch:=omega) only[go_sem,undef,ints,gd_i,w64]
  refine hN _ ?_
  try clear hN N
  refine AW.cond rfl (fun h1=> ?_) (fun h1=> ?_)
  ·try simp only[cn]at h1
   refine AW.skip ?_
   simp only[thn,blk]
   refine hN2 _ ?_
   try clear hN2 N2
   refine AW.seq (fun N3 hN3=> ?_)
   refine AW.block ?_
   refine AW.sr envOk (fun N hN=> ?_)
   simp-dsimp-implicitDefEqProofs (disch:=omega) only[go_sem,undef,ints,gd_i,w64]
   refine hN _ ?_
   try clear hN N
   refine AW.cond rfl (fun h2=> ?_) (fun h2=> ?_)
   ·try simp only[cn]at h2
    refine AW.sr envOk (fun N hN=> ?_)
    simp-dsimp-implicitDefEqProofs (disch:=omega) only[go_sem,undef,ints,gd_i,w64]
    refine hN _ ?_
    try clear hN N
    refine AW.ret ?_
    simp-dsimp-implicitDefEqProofs (disch:=omega) only[go_sem,undef]
    exact bt (tf_f (fun h=>h2 (h k (by omega)))).symm
   ·try simp only[cn]at h2
    refine AW.skip ?_
    simp only[thn,blk]
    refine hN3 _ ?_
    try clear hN3 N3
    refine AW.regionL envOk ?_
    simp-dsimp-implicitDefEqProofs (disch:=omega) only[go_sem,undef,ints,gd_i,w64]
    refine⟨k+1,?_,fun _ _ h=>h,?_,?_⟩
    ·simp(disch:=omega) [wks,wkA,sl,w64,ints,rows,cubes,ints,gd_i,w64]<;>omega
    ·refine⟨by omega,fun j hj=> ?_⟩
     by_cases e:j=k
     ·subst e;exact h2
     ·exact hI j (by omega)
    ·first|omega|(simp only;omega)
  ·try simp only[cn]at h1
   refine AW.exit ?_
   simp only[thn,blk,if_true]
   refine hN1 _ ?_
   try clear hN1 N1
   refine AW.sr envOk (fun N hN=> ?_)
   simp-dsimp-implicitDefEqProofs (disch:=omega) only[go_sem,undef,ints,gd_i,w64]
   refine hN _ ?_
   try clear hN N
   refine AW.ret ?_
   simp-dsimp-implicitDefEqProofs (disch:=omega) only[go_sem,undef]
   exact bt (tf_t (fun j hj=>hI j (by omega))).symm
theorem spec_l01Same_ok (a b:List Int) (ha:a.length≤1099511627776) (hb:b.length≤1099511627776):ACp Tryz.prog 121 [ints a,ints b] (.b (tf (a=b))):=by
 refine ACp.intro' envOk Tryz.func121 rfl (by kernel_rfl) Tryz.ntmps121 Tryz.results121 (.b _) (fun nx cX=> ?_)
 refine AW.sr envOk (fun N hN=> ?_)
 simp-dsimp-implicitDefEqProofs (disch:=omega) only[go_sem,undef,ints,gd_i,w64]
 refine hN _ ?_
 try clear hN N
 refine AW.seq (fun N1 hN1=> ?_)
 refine AW.sr envOk (fun N hN=> ?_)
 simp-dsimp-implicitDefEqProofs (disch:=omega) only[go_sem,undef,ints,gd_i,w64]
 refine hN _ ?_
 try clear hN N
 refine AW.cond rfl (fun h1=> ?_) (fun h1=> ?_)
 ·try simp only[cn]at h1
  refine AW.sr envOk (fun N hN=> ?_)
  simp-dsimp-implicitDefEqProofs (disch:=omega) only[go_sem,undef,ints,gd_i,w64]
  refine hN _ ?_
  try clear hN N
  refine AW.ret ?_
  simp-dsimp-implicitDefEqProofs (disch:=omega) only[go_sem,undef]
  exact bt (tf_f (fun e=>h1 (by rw[e]))).symm
 ·try simp only[cn]at h1
  have hl:a.length=b.length:=by omega
  refine AW.skip ?_
  simp only[thn,blk]
  refine hN1 _ ?_
  try clear hN1 N1
  refine AW.seq (fun N2 hN2=> ?_)
  refine AW.sr envOk (fun N hN=> ?_)
  simp-dsimp-implicitDefEqProofs (disch:=omega) only[go_sem,undef,ints,gd_i,w64]
  refine hN _ ?_
  try clear hN N
  refine AW.block ?_
  refine AW.loopN (α:=Nat) (fun x=>sl 26 [(0,ints a),(1,ints b),(5,.i .i64 x)]) (fun _=>noH) (fun x m=>x≤a.length∧a.take x=b.take x) (fun x=>a.length-x) (0) ?_ ?_ (fun _ _ h=>h) ?_
  ·exact⟨by omega,rfl⟩
  ·simp(disch:=omega) [wks,wkA,sl,w64,ints,rows,cubes,ints,gd_i,w64]<;>omega
  ·skip
   rintro k m ⟨hk,he⟩
   simp-dsimp-implicitDefEqProofs (disch:=omega) only[go_sem,undef]
   refine AW.seq (fun N3 hN3=> ?_)
   refine AW.sr envOk (fun N hN=> ?_)
   simp-dsimp-implicitDefEqProofs (disch:=omega) only[go_sem,undef,ints,gd_i,w64]
   refine hN _ ?_
   try clear hN N
   refine AW.cond rfl (fun h2=> ?_) (fun h2=> ?_)
   ·try simp only[cn]at h2
    refine AW.skip ?_
    simp only[thn,blk]
    refine hN3 _ ?_
    try clear hN3 N3
    refine AW.seq (fun N4 hN4=> ?_)
    refine AW.block ?_
    refine AW.seq (fun N hN=> ?_)
    refine AW.drawL envOk (by kernel_rfl) 9 (by kernel_rfl) ?_
    simp-dsimp-implicitDefEqProofs (disch:=omega) only[hr_nil,hr_one,hr_if,List.take_succ_cons,List.take_zero,List.drop_succ_cons,List.drop_zero,List.take_nil,List.drop_nil,go_sem,undef,ints,gd_i,w64]
    refine hN _ ?_
    try clear hN N
    refine AW.cond rfl (fun h3=> ?_) (fun h3=> ?_)
    ·try simp only[cn]at h3
     refine AW.sr envOk (fun N hN=> ?_)
     simp-dsimp-implicitDefEqProofs (disch:=omega) only[go_sem,undef,ints,gd_i,w64]
     refine hN _ ?_
     try clear hN N
     refine AW.ret ?_
     simp-dsimp-implicitDefEqProofs (disch:=omega) only[go_sem,undef]
     exact bt (tf_f (fun e=>h3 (by rw[e]))).symm
    ·try simp only[cn]at h3
     refine AW.skip ?_
     simp only[thn,blk]
     refine hN4 _ ?_
     try clear hN4 N4
     refine AW.regionL envOk ?_
     simp-dsimp-implicitDefEqProofs (disch:=omega) only[go_sem,undef,ints,gd_i,w64]
     refine⟨k+1,?_,fun _ _ h=>h,?_,?_⟩
     ·simp(disch:=omega) [wks,wkA,sl,w64,ints,rows,cubes,ints,gd_i,w64]<;>omega
     ·exact⟨by omega,take_ext 0 hl (by omega) he h3⟩
     ·first|omega|(simp only;omega)
   ·try simp only[cn]at h2
    refine AW.exit ?_
    simp only[thn,blk,if_true]
    refine hN2 _ ?_
    try clear hN2 N2
    refine AW.sr envOk (fun N hN=> ?_)
    simp-dsimp-implicitDefEqProofs (disch:=omega) only[go_sem,undef,ints,gd_i,w64]
    refine hN _ ?_
    try clear hN N
    refine AW.ret ?_
    simp-dsimp-implicitDefEqProofs (disch:=omega) only[go_sem,undef]
    rw[show k=a.length by omega,List.take_length,hl,List.take_length]at he
    exact bt (tf_t he).symm
def Flt (n:Nat) (P:Nat→Nat→Prop) (J:Nat→Nat→Nat→Prop) (t:Int×Int×Int×Int):Prop:=
  (∃a b:Nat,t=(1,(a:Int),(b:Int),0)∧a<n∧b<n∧P a b∧∀a' b',b'<n→(a'<a∨(a'=a∧b'<b))→¬P a' b')∨
  ((∀a b,a<n→b<n→¬P a b)∧((∃a b c:Nat,t=(2,(a:Int),(b:Int),(c:Int))∧a<b∧b<c∧c<n∧J a b c∧∀a' b' c',a'<b'→b'<c'→c'<n→(a'<a∨(a'=a∧(b'<b∨(b'=b∧c'<c))))→¬J a' b' c')∨
    (t=(0,0,0,0)∧∀a b c,a<b→b<c→c<n→¬J a b c)))
theorem Flt.uniq {n:Nat} {P:Nat→Nat→Prop} {J:Nat→Nat→Nat→Prop} {t t':Int×Int×Int×Int} (h:Flt n P J t) (h':Flt n P J t'):t=t':=by
  rcases h with ⟨a,b,rfl,ha,hb,hp,hf⟩|⟨hn,h⟩
  · rcases h' with ⟨a',b',rfl,ha',hb',hp',hf'⟩|⟨hn',h'⟩
    · have h1:a=a'∧b=b':=by
        apply Classical.byContradiction
        intro hne
        by_cases hlt:a<a'∨(a=a'∧b<b')
        · exact hf' a b hb hlt hp
        · exact hf a' b' hb' (by omega) hp'
      rw[h1.1,h1.2]
    · exact absurd hp (hn' a b ha hb)
  · rcases h' with ⟨a',b',rfl,ha',hb',hp',hf'⟩|⟨hn',h'⟩
    · exact absurd hp' (hn a' b' ha' hb')
    · rcases h with ⟨a,b,c,rfl,h1,h2,h3,hj,hf⟩|⟨rfl,hz⟩
      · rcases h' with ⟨a',b',c',rfl,h1',h2',h3',hj',hf'⟩|⟨rfl,hz'⟩
        · have h4:a=a'∧b=b'∧c=c':=by
            apply Classical.byContradiction
            intro hne
            by_cases hlt:a<a'∨(a=a'∧(b<b'∨(b=b'∧c<c')))
            · exact hf' a b c h1 h2 h3 hlt hj
            · exact hf a' b' c' h1' h2' h3' (by omega) hj'
          rw[h4.1,h4.2.1,h4.2.2]
        · exact absurd hj (hz' a b c h1 h2 h3)
      · rcases h' with ⟨a',b',c',rfl,h1',h2',h3',hj',hf'⟩|⟨rfl,hz'⟩
        · exact absurd hj' (hz a' b' c' h1' h2' h3')
        · rfl
theorem least {P:Nat→Prop} (h:∃n,P n):∃n,P n∧∀m,m<n→¬P m:=by
  apply Classical.byContradiction
  intro hc
  have:∀n,¬P n:=by
    intro n
    induction n using Nat.strongRecOn with
    |_ n ih=>intro hp;exact hc ⟨n,hp,ih⟩
  obtain⟨n,hn⟩:=h
  exact this n hn
theorem Flt.ex (n:Nat) (P:Nat→Nat→Prop) (J:Nat→Nat→Nat→Prop):∃t,Flt n P J t:=by
  by_cases h:∃a,∃b,a<n∧b<n∧P a b
  · obtain⟨a,ha,hla⟩:=least h
    obtain⟨b,⟨h1,h2,h3⟩,hlb⟩:=least ha
    refine⟨_,.inl ⟨a,b,rfl,h1,h2,h3,fun a' b' hb' hlt hp=> ?_⟩⟩
    rcases hlt with hlt|⟨rfl,hlt⟩
    · exact hla a' hlt ⟨b',by omega,hb',hp⟩
    · exact hlb b' hlt ⟨h1,hb',hp⟩
  · have hn:∀a b,a<n→b<n→¬P a b:=fun a b ha hb hp=>h ⟨a,b,ha,hb,hp⟩
    by_cases h':∃a,∃b,∃c,a<b∧b<c∧c<n∧J a b c
    · obtain⟨a,ha,hla⟩:=least h'
      obtain⟨b,hb,hlb⟩:=least ha
      obtain⟨c,⟨h1,h2,h3,h4⟩,hlc⟩:=least hb
      refine⟨_,.inr ⟨hn,.inl ⟨a,b,c,rfl,h1,h2,h3,h4,fun a' b' c' g1 g2 g3 hlt hj=> ?_⟩⟩⟩
      rcases hlt with hlt|⟨rfl,hlt|⟨rfl,hlt⟩⟩
      · exact hla a' hlt ⟨b',c',g1,g2,g3,hj⟩
      · exact hlb b' hlt ⟨c',g1,g2,g3,hj⟩
      · exact hlc c' hlt ⟨g1,g2,g3,hj⟩
    · exact⟨_,.inr ⟨hn,.inr ⟨rfl,fun a b c h1 h2 h3 hj=>h' ⟨a,b,c,h1,h2,h3,hj⟩⟩⟩⟩
def pf (p:Int) (pw:List (List Int)) (br:List (List (List Int))) (i j:Nat):Prop:=
  mulL p pw p (brkL p pw br (unitL pw.length i) (unitL pw.length j))≠brkL p pw br (pw.getD i []) (unitL pw.length j)
def jsum (p:Int) (pw:List (List Int)) (br:List (List (List Int))) (a b c:List Int):List Int:=
  mixL p pw 1 (mixL p pw 1 (brkL p pw br (brkL p pw br a b) c) 1 (brkL p pw br (brkL p pw br b c) a)) 1 (brkL p pw br (brkL p pw br c a) b)
def jf (p:Int) (pw:List (List Int)) (br:List (List (List Int))) (i j k:Nat):Prop:=¬zeros (jsum p pw br (unitL pw.length i) (unitL pw.length j) (unitL pw.length k))
def isFault (p:Int) (pw:List (List Int)) (br:List (List (List Int))) (t:Int×Int×Int×Int):Prop:=Flt pw.length (pf p pw br) (jf p pw br) t
def i4 (t:Int×Int×Int×Int):AV:= .t [.i .i64 t.1,.i .i64 t.2.1,.i .i64 t.2.2.1,.i .i64 t.2.2.2]
theorem Sml.zero {n:Nat} {k:Int}:Sml n k (vec n (fun _=>0)):=fun j hj=>by rw[vec_get hj];simp
open Nat (reduceAdd reduceSub reduceGT reduceEqDiff reduceMul)
theorem NR.ts {xs:List AV} (h:∀x∈xs,NR x):NR (.t xs):= .t _ (fun k x hk=>h x (List.mem_of_getElem? hk))
def LieR (p:Int) (pw:List (List Int)) (br:List (List (List Int))):Prop:=shapeP p pw br∧isFault p pw br (0,0,0,0)
theorem Flt.zero {n:Nat} {P:Nat→Nat→Prop} {J:Nat→Nat→Nat→Prop} {t:Int×Int×Int×Int} (h:Flt n P J t):t.1=0↔Flt n P J (0,0,0,0):=by
  constructor
  · intro h0
    rcases h with ⟨a,b,rfl,_⟩|⟨hn,⟨a,b,c,rfl,_⟩|⟨rfl,hz⟩⟩
    · simp at h0
    · simp at h0
    · exact .inr ⟨hn,.inr ⟨rfl,hz⟩⟩
  · intro h0
    rw[h.uniq h0]
open Nat (reduceAdd reduceSub reduceGT reduceEqDiff reduceMul)
theorem o_ints (a:List Int):one (ints a)=true:=rfl
theorem o_rows (a:List (List Int)):one (rows a)=true:=rfl
theorem o_cubes (a:List (List (List Int))):one (cubes a)=true:=rfl
theorem k_ints (a:List Int):okA (ints a)=true:=rfl
theorem k_rows (a:List (List Int)):okA (rows a)=true:=rfl
theorem k_cubes (a:List (List (List Int))):okA (cubes a)=true:=rfl
theorem c_ints (a:List Int):cellsA (ints a)=[ints a]:=rfl
theorem c_rows (a:List (List Int)):cellsA (rows a)=[rows a]:=rfl
theorem c_cubes (a:List (List (List Int))):cellsA (cubes a)=[cubes a]:=rfl
attribute [go_sem] o_ints o_rows o_cubes k_ints k_rows k_cubes c_ints c_rows c_cubes Bool.true_and ne_eq not_true_eq_false not_false_eq_true or_false false_or or_self
def Rd (r X:AV):Prop:=∀(L:LM) (w:World) (M:Nat→Prop) (u:Value),R L w M r u→R L w M X u
theorem Rd.refl (r:AV):Rd r r:=fun _ _ _ _ h=>h
theorem Rd.nl:Rd .nl (.v 0 []):=fun _ _ _ _ h=>h.nl_v0
theorem Rd.t2 {a b x y:AV} (h1:Rd a x) (h2:Rd b y):Rd (.t [a,b]) (.t [x,y]):=by
  intro L w M u h
  cases h with
  | t _ us hs hr=>
    refine .t _ us hs ?_
    intro k z hk
    match k,hk with
    |0,hk=>cases hk;exact h1 _ _ _ _ (hr 0 _ rfl)
    |1,hk=>cases hk;exact h2 _ _ _ _ (hr 1 _ rfl)
theorem ints_nr (a:List Int):NR (ints a):=by
  unfold Go.Proofs.YtlcddiojeghfgaaGreatDoor.ints
  exact .v _ _ (by intro k x hk;obtain⟨y,_,rfl⟩:=List.mem_map.1 (List.mem_of_getElem? hk);exact .i _ _)
theorem Own.pair {a b:Nat} {H:HP} {r X:AV} {ids:List Nat} {k:IntKind} {e:Int} (h:Own a b H r X ids):∃ids,Own a b H (.t [r,.i k e]) (.t [X,.i k e]) ids:=by
  refine⟨ids++([]++[]),.t _ _ _ (.cons _ _ _ _ _ _ h.1 (.cons _ _ _ _ _ _ (.leaf _ (.i _ _) (.i _ _)) .nil)),?_,?_⟩
  · simpa using h.2.1
  · simpa using h.2.2
theorem shapeP.pb {p:Int} {pw:List (List Int)} {br:List (List (List Int))} (h:shapeP p pw br): -1000≤p∧p≤1000:=by have:=pr4_bd h.1;omega
def AllEl (p:Int) (pw:List (List Int)) (br:List (List (List Int))) (xs:List (List Int)):Prop:=LieR p pw br∧∀k,k<xs.length→isEl p pw.length (xs.getD k [])
theorem AllEl.one {p:Int} {pw:List (List Int)} {br:List (List (List Int))} {a:List Int}:AllEl p pw br [a]↔LieR p pw br∧isEl p pw.length a:=
  ⟨fun h=>⟨h.1,h.2 0 (by simp)⟩,fun h=>⟨h.1,fun k hk=>by
    simp at hk;subst hk;exact h.2⟩⟩
theorem AllEl.two {p:Int} {pw:List (List Int)} {br:List (List (List Int))} {a b:List Int}:AllEl p pw br [a,b]↔LieR p pw br∧isEl p pw.length a∧isEl p pw.length b:=
  ⟨fun h=>⟨h.1,h.2 0 (by simp),h.2 1 (by simp)⟩,fun h=>⟨h.1,fun k hk=>by
    match k,hk with
    |0,_=>exact h.2.1
    |1,_=>exact h.2.2⟩⟩
theorem Vw.rws {H:HP} {id:Nat} {xs:List (List Int)} {n:Nat} (hn:n=xs.length) (h:H id=some (xs.map Go.Proofs.YtlcddiojeghfgaaGreatDoor.ints)):Vw H (.h id 0 n) (rows xs):=by
  subst hn
  unfold rows
  exact .h id 0 xs.length _ _ h (by simp) (by simp) (fun k x y hx hy=>by rw[Nat.zero_add,hy]at hx;cases hx;exact .refl _)
open Nat (reduceAdd reduceSub reduceGT reduceEqDiff reduceMul)
def MarkC {α:Type} (f:FuncId) (enc:α→AV) (ok:α→Prop) (B C:Int):Prop:=
  ∀ (nx:Nat) (H:HP) (r:AV) (X:α) (ids:List Nat) (k:Int),Ow H r (enc X) ids→ids.Nodup→ok X→0≤k→k≤C→
    AC Tryz.prog f nx H [r,.i .i64 k] (fun _ H' res=>∃k':Int,res= .i .i64 k'∧k≤k'∧k'≤k+B∧∀i,i∉ids→H' i=H i)
theorem Ow.pair_inv {H:HP} {r X:AV} {k:IntKind} {e:Int} {ids:List Nat} (h:Ow H r (.t [X,.i k e]) ids):∃r1,r= .t [r1,.i k e]∧Ow H r1 X ids:=by
  generalize hX:AV.t [X,AV.i k e]=Y at h
  cases h with
  | leaf _ hf hn=>
    subst hX
    cases hf with|t _ hf=>cases hn with|t _ hn=>exact⟨X,rfl,.leaf _ (hf 0 _ rfl) (hn 0 _ rfl)⟩
  |nl=>cases hX
  |h id cs ts ids' h1 h2=>cases hX
  |q id cs ts ids' h1 h2=>cases hX
  |g cs ts ids' h2=>cases hX
  | t cs ts ids' h2=>
    cases hX
    cases h2 with|cons x0 _ xs _ i0 j0 g1 g2=>cases g2 with|cons x1 _ xs _ i1 j1 g3 g4=>
      cases g4
      cases g3 with|leaf _ _ _=>exact⟨x0,rfl,by simpa using g1⟩
def cut (nx:Nat) (H:HP):HP:=fun i=>if i<nx then H i else none
theorem one_ow {H:HP} {r:AV} {n:Nat} {ts:List AV} {ids:List Nat} (h:Ow H r (.v n ts) ids):one r=true:=h.slice.2.1
open Nat (reduceAdd reduceSub reduceGT reduceEqDiff reduceMul)
def Hold (H:HP) (lo hi:Nat) (r X:AV):Prop:=∃ids,Own lo hi H r X ids
theorem Hold.keep {H H':HP} {lo hi:Nat} {r X:AV} (h:Hold H lo hi r X) (hk:∀i,lo≤i→i<hi→H' i=H i):Hold H' lo hi r X:=by
  obtain⟨ids,h⟩:=h
  exact⟨ids,h.keep hk (Nat.le_refl _) (Nat.le_refl _)⟩
theorem Hold.vw {H:HP} {lo hi:Nat} {r X:AV} (h:Hold H lo hi r X):Vw H r X:=by obtain⟨ids,h⟩:=h;exact h.1.vw
theorem AC.hold {P:Program} {f:FuncId} {nx:Nat} {H:HP} {xs ts:List AV} {X:AV} {K:Nat→HP→AV→Prop} (h:ACo P f ts X) (hv:Vws H xs ts)
    (hk:∀nx' H' r,nx≤nx'→(∀i,i<nx→H' i=H i)→Hold H' nx nx' r X→K nx' H' r):AC P f nx H xs K:=
  AC.own h hv (fun nx' H' r ids h1 h2 h3=>hk nx' H' r h1 h2 ⟨ids,h3⟩)
theorem Hold.pair {H:HP} {lo hi:Nat} {r X:AV} {k:IntKind} {e:Int} (h:Hold H lo hi r (.t [X,.i k e])):∃r1,r= .t [r1,.i k e]∧Hold H lo hi r1 X:=by
  obtain⟨ids,h1,h2,h3⟩:=h
  obtain⟨r1,h4,h5⟩:=h1.pair_inv
  exact⟨r1,h4,ids,h5,h2,h3⟩
def MarkH {α:Type} (f:FuncId) (enc:α→AV) (ok:α→Prop) (B C:Int):Prop:=
  ∀ (nx:Nat) (H:HP) (r:AV) (X:α) (lo hi:Nat) (k:Int),Hold H lo hi r (enc X)→hi≤nx→ok X→0≤k→k≤C→
    AC Tryz.prog f nx H [r,.i .i64 k] (fun _ H' res=>∃k':Int,res= .i .i64 k'∧k≤k'∧k'≤k+B∧∀i,(i<lo∨hi≤i)→H' i=H i)
theorem MarkC.h {α:Type} {f:FuncId} {enc:α→AV} {ok:α→Prop} {B C:Int} (h:MarkC f enc ok B C):MarkH f enc ok B C:=by
  intro nx H r X lo hi k ⟨ids,h1,h2,h3⟩ _ hok h0 h5
  refine(h nx H r X ids k h1 h2 hok h0 h5).mono ?_
  rintro _ H' res ⟨k',g1,g2,g3,g4⟩
  exact⟨k',g1,g2,g3,fun i hi=>g4 i (fun hm=>by have:=h3 i hm;omega)⟩
end Go.Proofs.YtlcddiojeghfgaaGreatDoor
