import Derived.Test.YtlcddiojeghfgaaGreatDoorZ11
import Derived.Test.YtlcddiojeghfgaaGreatDoorZ22
set_option linter.unusedVariables false
set_option linter.unusedSimpArgs false
set_option linter.unusedSectionVars false
namespace Go.Proofs.YtlcddiojeghfgaaGreatDoor
open Nat (reduceAdd reduceSub reduceGT reduceEqDiff reduceMul)
def pl1 (n b:Int):Option Int:=if 1≤b-97+1∧b-97+1≤n then some (b-97+1)else if 1≤b-65+1∧b-65+1≤n then some (-(b-65+1))else none
def ltrs (n:Int) (s:ByteArray) (i:Nat):List Int:=(List.range i).map fun j=>(pl1 n (byt s j)).getD 0
def plAll (n:Int) (s:ByteArray):Prop:=∀j,j<s.size→pl1 n (byt s j)≠none
open Classical in
noncomputable def parW (n:Int) (s:ByteArray):List Int:=if s.toList=(⟨#[49]⟩:ByteArray).toList then []else if plAll n s then ltrs n s s.size else []
open Classical in
noncomputable def parB (n:Int) (s:ByteArray):Bool:=if s.toList=(⟨#[49]⟩:ByteArray).toList then true else if plAll n s then decide ((s.size:Int)>0)else false
noncomputable def parR (n:Int) (s:ByteArray):AV:= .t [ints (parW n s),.b (parB n s)]
theorem tb_nr {x:AV} (h:NR x) (e:Bool):NR (.t [x,.b e]):= .t _ fun k y hk=>by
  match k,hk with
  |0,hk=>cases hk;exact h
  |1,hk=>cases hk;exact .b _
theorem vw_tb {H:HP} {a b x:AV} (h:Vw H a b):Vw H (.t [a,x]) (.t [b,x]):= .t _ _ rfl fun k u v hu hv=>by
  match k,hu,hv with
  |0,hu,hv=>cases hu;cases hv;exact h
  |1,hu,hv=>cases hu;cases hv;exact .refl _
theorem ltrs_len (n:Int) (s:ByteArray) (i:Nat):(ltrs n s i).length=i:=by simp[ltrs]
theorem ltrs_s {n:Int} {s:ByteArray} {i:Nat} {l:Int} (h:pl1 n (byt s i)=some l):ltrs n s (i+1)=ltrs n s i++[l]:=by
  rw[ltrs,List.range_succ,List.map_append,List.map_cons,List.map_nil,h];rfl
theorem intsL2 (a:List Int):NR (ints a):= .v _ _ fun k x h=>by
  rw[List.getElem?_map]at h
  obtain⟨y,_,rfl⟩:=Option.map_eq_some_iff.1 h
  exact .i _ _
noncomputable def lcs (n:Int) (s:ByteArray) (i:Nat):List AV:=(ltrs n s i).map (.i .i64)
theorem lcs_len (n:Int) (s:ByteArray) (i:Nat):(lcs n s i).length=i:=by rw[lcs,List.length_map,ltrs_len]
theorem lcs_s {n:Int} {s:ByteArray} {i:Nat} {l:Int} (h:pl1 n (byt s i)=some l):lcs n s (i+1)=lcs n s i++[.i .i64 l]:=by
  rw[lcs,ltrs_s h,List.map_append];rfl
theorem pl_a {n b:Int} (h:1≤b-97+1∧b-97+1≤n):pl1 n b=some (b-97+1):=by rw[pl1,if_pos h]
theorem pl_b {n b:Int} (h:¬(1≤b-97+1∧b-97+1≤n)) (h2:1≤b-65+1∧b-65+1≤n):pl1 n b=some (-(b-65+1)):=by rw[pl1,if_neg h,if_pos h2]
theorem pl_n {n b:Int} (h:¬(1≤b-97+1∧b-97+1≤n)) (h2:¬(1≤b-65+1∧b-65+1≤n)):pl1 n b=none:=by rw[pl1,if_neg h,if_neg h2]
theorem par_one {n:Int} {s:ByteArray} (h:s.toList=(⟨#[49]⟩:ByteArray).toList):parR n s= .t [ints [],.b true]:=by rw[parR,parW,parB,if_pos h,if_pos h]
theorem par_no {n:Int} {s:ByteArray} {k:Nat} (h:¬s.toList=(⟨#[49]⟩:ByteArray).toList) (hk:k<s.size) (hn:pl1 n (byt s k)=none):parR n s= .t [ints [],.b false]:=by
  have:¬plAll n s:=fun ha=>ha k hk hn
  rw[parR,parW,parB,if_neg h,if_neg h,if_neg this,if_neg this]
theorem par_yes {n:Int} {s:ByteArray} (h:¬s.toList=(⟨#[49]⟩:ByteArray).toList) (ha:plAll n s):parR n s= .t [.v s.size (lcs n s s.size),.b (decide ((s.size:Int)>0))]:=by
  rw[parR,parW,parB,if_neg h,if_neg h,if_pos ha,if_pos ha,ints,ltrs_len];rfl
theorem pl_nx {n:Int} {s:ByteArray} {k:Nat} {l:Int} (hd:∀j,j<k→pl1 n (byt s j)≠none) (h:pl1 n (byt s k)=some l):∀j,j<k+1→pl1 n (byt s j)≠none:=by
  intro j hj
  by_cases e:j=k
  · subst e;rw[h];simp
  · exact hd j (by omega)
set_option maxHeartbeats 4000000 in theorem spec_l06Parse_ok (n:Int) (s:ByteArray) (hs:s.size≤2097152):ACp Tryz.prog 116 [.i .i64 n,.s s] (parR n s):=by
 refine ACp.introV envOk Tryz.func116 rfl (by kernel_rfl) Tryz.ntmps116 Tryz.results116 ((tb_nr (intsL2 _) _)) (fun nx cX=> ?_)
 refine AW.sr envOk (fun N hN=> ?_)
 simp-dsimp-implicitDefEqProofs (disch:=omega) only[go_sem,undef,w64]
 refine hN _ ?_
 try clear hN N
 refine AW.seq (fun N1 hN1=> ?_)
 refine AW.sr envOk (fun N hN=> ?_)
 simp-dsimp-implicitDefEqProofs (disch:=omega) only[go_sem,undef,w64]
 refine hN _ ?_
 try clear hN N
 refine AW.cond rfl (fun h1=> ?_) (fun h1=> ?_)
 ·try simp only[cn]at h1
  refine AW.sr envOk (fun N hN=> ?_)
  simp-dsimp-implicitDefEqProofs (disch:=omega) only[go_sem,undef,w64]
  refine hN _ ?_
  try clear hN N
  refine AW.ret ?_
  simp-dsimp-implicitDefEqProofs (disch:=omega) only[go_sem,undef]
  rw[par_one h1];exact vw_tb (vw_hall (cs:=[]) rfl)
 ·try simp only[cn]at h1
  refine AW.skip ?_
  simp only[thn,blk]
  refine hN1 _ ?_
  try clear hN1 N1
  refine AW.sr envOk (fun N hN=> ?_)
  simp-dsimp-implicitDefEqProofs (disch:=omega) only[go_sem,undef,w64]
  refine hN _ ?_
  try clear hN N
  refine AW.seq (fun N2 hN2=> ?_)
  refine AW.sr envOk (fun N hN=> ?_)
  simp-dsimp-implicitDefEqProofs (disch:=omega) only[go_sem,undef,w64]
  refine hN _ ?_
  try clear hN N
  refine AW.block ?_
  refine AW.loopN (α:=Nat×Nat) (fun x=>sl 53 [(0,.i .i64 n),(1,.s s),(6,.h x.2 0 x.1),(7,.i .i64 x.1)]) (fun x=>upd noH x.2 (some (lcs n s x.1))) (fun x m=>x.1≤s.size∧x.2<m∧∀j,j<x.1→pl1 n (byt s j)≠none) (fun x=>s.size-x.1) ((0,_)) ?_ ?_ (le_one (upd_same _ _ _)) ?_
  ·exact⟨by simp only;omega,by first|omega|(simp only;omega)|(dsimp only;omega),by intro j hj;simp only at hj;omega⟩
  ·simp(disch:=omega) [wks,wkA,sl,w64,ints,rows,cubes,w64]<;>omega
  ·skip
   rintro⟨k,id⟩ m ⟨hk,hid,hd⟩
   simp only at hk hid hd ⊢
   have hb:=byt_le s k
   have hb':0≤((s.data.getD k 0).toNat:Int)∧((s.data.getD k 0).toNat:Int)≤255:=hb
   have g1:(k+1)*8≤140737488355328:=by omega
   have g2:k+1≤9223372036854775807:=by omega
   have hle:k≤(lcs n s k).length:=by rw[lcs_len];exact Nat.le_refl _
   have htk:List.take k (lcs n s k)=lcs n s k:=List.take_of_length_le (by rw[lcs_len];omega)
   refine AW.seq (fun N3 hN3=> ?_)
   refine AW.sr envOk (fun N hN=> ?_)
   simp-dsimp-implicitDefEqProofs (disch:=omega) only[go_sem,undef,w64]
   refine hN _ ?_
   try clear hN N
   refine AW.cond rfl (fun h2=> ?_) (fun h2=> ?_)
   ·try simp only[cn]at h2
    have hk2:k<s.size:=by omega
    refine AW.skip ?_
    simp only[thn,blk]
    refine hN3 _ ?_
    try clear hN3 N3
    refine AW.seq (fun N4 hN4=> ?_)
    refine AW.block ?_
    refine AW.seq (fun N hN=> ?_)
    refine AW.drawL envOk (by kernel_rfl) 14 (by kernel_rfl) ?_
    simp-dsimp-implicitDefEqProofs (disch:=omega) only[hr_nil,hr_one,hr_if,List.take_succ_cons,List.take_zero,List.drop_succ_cons,List.drop_zero,List.take_nil,List.drop_nil,go_sem,undef,w64]
    refine hN _ ?_
    try clear hN N
    refine AW.block ?_
    refine AW.sr envOk (fun N hN=> ?_)
    simp-dsimp-implicitDefEqProofs (disch:=omega) only[go_sem,undef,w64]
    refine AC.pure (.of (spec_l01In_ok _ 1 n)) ?_
    try simp-dsimp-implicitDefEqProofs (disch:=omega) only[go_sem,undef,w64]
    refine hN _ ?_
    try clear hN N
    refine AW.cond rfl (fun h3=> ?_) (fun h3=> ?_)
    ·try simp only[cn]at h3
     have hl:=pl_a (b:=byt s k) ⟨h3.1,h3.2⟩
     refine AW.regionL envOk ?_
     simp-dsimp-implicitDefEqProofs (disch:=omega) only[go_sem,undef,w64,htk,g1,g2,hle]
     refine hN4 _ ?_
     try clear hN4 N4
     refine AW.regionL envOk ?_
     simp-dsimp-implicitDefEqProofs (disch:=omega) only[go_sem,undef,w64]
     refine⟨(k+1,_),?_,by rw[lcs_s hl];exact le_one (upd_same _ _ _),?_,?_⟩
     ·simp(disch:=omega) [wks,wkA,sl,w64,ints,rows,cubes,w64]<;>omega
     ·exact⟨by simp only;omega,by first|omega|(simp only;omega)|(dsimp only;omega),pl_nx hd hl⟩
     ·first|omega|(simp only;omega)
    ·try simp only[cn]at h3
     refine AW.sr envOk (fun N hN=> ?_)
     simp-dsimp-implicitDefEqProofs (disch:=omega) only[go_sem,undef,w64]
     refine AC.pure (.of (spec_l01In_ok _ 1 n)) ?_
     try simp-dsimp-implicitDefEqProofs (disch:=omega) only[go_sem,undef,w64]
     refine hN _ ?_
     try clear hN N
     refine AW.cond rfl (fun h4=> ?_) (fun h4=> ?_)
     ·try simp only[cn]at h4
      have hl:=(pl_b (b:=byt s k) h3 ⟨h4.1,h4.2⟩).trans (congrArg some (Int.zero_sub _).symm)
      refine AW.regionL envOk ?_
      simp-dsimp-implicitDefEqProofs (disch:=omega) only[go_sem,undef,w64,htk,g1,g2,hle]
      refine hN4 _ ?_
      try clear hN4 N4
      refine AW.regionL envOk ?_
      simp-dsimp-implicitDefEqProofs (disch:=omega) only[go_sem,undef,w64]
      refine⟨(k+1,_),?_,by rw[lcs_s hl];exact le_one (upd_same _ _ _),?_,?_⟩
      ·simp(disch:=omega) [wks,wkA,sl,w64,ints,rows,cubes,w64]<;>omega
      ·exact⟨by simp only;omega,by first|omega|(simp only;omega)|(dsimp only;omega),pl_nx hd hl⟩
      ·first|omega|(simp only;omega)
     ·try simp only[cn]at h4
      refine AW.sr envOk (fun N hN=> ?_)
      simp-dsimp-implicitDefEqProofs (disch:=omega) only[go_sem,undef,w64]
      refine hN _ ?_
      try clear hN N
      refine AW.ret ?_
      simp-dsimp-implicitDefEqProofs (disch:=omega) only[go_sem,undef]
      rw[par_no h1 hk2 (pl_n (b:=byt s k) h3 h4)];exact vw_tb .nl
   ·try simp only[cn]at h2
    obtain rfl:k=s.size:=by omega
    refine AW.exit ?_
    simp only[thn,blk,if_true]
    refine hN2 _ ?_
    try clear hN2 N2
    refine AW.sr envOk (fun N hN=> ?_)
    simp-dsimp-implicitDefEqProofs (disch:=omega) only[go_sem,undef,w64]
    refine hN _ ?_
    try clear hN N
    refine AW.ret ?_
    simp-dsimp-implicitDefEqProofs (disch:=omega) only[go_sem,undef]
    rw[par_yes h1 hd];exact vw_tb (vw_hall (lcs_len _ _ _))
end Go.Proofs.YtlcddiojeghfgaaGreatDoor
namespace Go.Proofs.YtlcddiojeghfgaaGreatDoor
def itr {α:Type} (f:α→α):Nat→α→α
  |0,x=>x
  |k+1,x=>f (itr f k x)
theorem itr_inv {α:Type} {f:α→α} {p:α→Prop} (hf:∀x,p x→p (f x)):∀k x,p x→p (itr f k x):=by
  intro k
  induction k with
  |zero=>exact fun _ h=>h
  |succ k ih=>exact fun x h=>hf _ (ih x h)
abbrev V:=Nat→Int
def z0:V:=fun _=>0
theorem fset_at {f:V} {i:Nat} {x:Int}:fset f i x i=x:=by simp[fset]
theorem fset_ne {f:V} {i k:Nat} {x:Int} (h:k≠i):fset f i x k=f k:=by simp[fset,h]
structure Pc where
  n:Nat
  o:Nat→Int
  pw:Nat→V
  cj:Nat→Nat→V
def fim (mul:V→V→V) (c:Nat→V) (x:V):Nat→Nat→V→V
  |0,_,u=>u
  |m+1,j,u=>fim mul c x m (j+1) (itr (fun u=>mul u (c j)) (x j).toNat u)
def img (P:Pc) (mul:V→V→V) (i:Nat) (x:V):V:=fim mul (P.cj i) x (P.n-(i+1)) (i+1) z0
def stp (P:Pc) (i:Nat) (mul:V→V→V) (a b:V):V:=
  if P.o i≤a i+b i then fset (mul (P.pw i) (mul (itr (img P mul i) (b i).toNat (fset a i 0)) (fset b i 0))) i (a i+b i-P.o i)
  else fset (mul (itr (img P mul i) (b i).toNat (fset a i 0)) (fset b i 0)) i (a i+b i)
def Md (P:Pc):Nat→V→V→V
  |0=>fun _ _=>z0
  |d+1=>stp P (P.n-(d+1)) (Md P d)
def M (P:Pc) (i:Nat):V→V→V:=Md P (P.n-i)
structure T (P:Pc) (i:Nat) (x:V):Prop where
  z:∀k,k<i→x k=0
  r:∀k,i≤k→k<P.n→0≤x k∧x k<P.o k
  t:∀k,P.n≤k→x k=0
structure Val (P:Pc):Prop where
  o:∀i,i<P.n→1<P.o i
  pw:∀i,i<P.n→T P (i+1) (P.pw i)
  cj:∀i j,i<j→j<P.n→T P (i+1) (P.cj i j)
variable {P:Pc}
theorem T.zero (hv:Val P) (i:Nat):T P i z0:=⟨fun _ _=>rfl,fun k _ h=>by have:=hv.o k h;exact⟨Int.le_refl _,by show(0:Int)<_;omega⟩,fun _ _=>rfl⟩
theorem T.mono (hv:Val P) {i j:Nat} (hij:i≤j) {x:V} (h:T P j x):T P i x:=
  ⟨fun k hk=>h.z k (by omega),fun k h1 h2=>by
    by_cases e:j≤k
    · exact h.r k e h2
    · rw[h.z k (by omega)];have:=hv.o k h2;omega,h.t⟩
theorem T.cut {i:Nat} {x:V} (h:T P i x):T P (i+1) (fset x i 0):=
  ⟨fun k hk=>by
    by_cases e:k=i
    · subst e;exact fset_at
    · rw[fset_ne e];exact h.z k (by omega),
   fun k h1 h2=>by rw[fset_ne (by omega)];exact h.r k (by omega) h2,
   fun k hk=>by
    by_cases e:k=i
    · subst e;exact fset_at
    · rw[fset_ne e];exact h.t k hk⟩
theorem T.put {i:Nat} (hi:i<P.n) {x:V} (h:T P (i+1) x) {a:Int} (h0:0≤a) (h1:a<P.o i):T P i (fset x i a):=
  ⟨fun k hk=>by rw[fset_ne (by omega)];exact h.z k (by omega),
   fun k h2 h3=>by
    by_cases e:k=i
    · subst e;rw[fset_at];exact⟨h0,h1⟩
    · rw[fset_ne e];exact h.r k (by omega) h3,
   fun k hk=>by rw[fset_ne (by omega)];exact h.t k hk⟩
theorem fim_T {mul:V→V→V} {N:V→Prop} (hm:∀a b,N a→N b→N (mul a b)) {c:Nat→V} {x:V}:∀m j u,(∀k,j≤k→k<j+m→N (c k))→N u→N (fim mul c x m j u):=by
  intro m
  induction m with
  |zero=>exact fun _ _ _ h=>h
  | succ m ih=>
    intro j u hc hu
    exact ih (j+1) _ (fun k h1 h2=>hc k (by omega) (by omega)) (itr_inv (fun y hy=>hm _ _ hy (hc j (by omega) (by omega))) _ _ hu)
structure Grp (N:V→Prop) (m:V→V→V):Prop where
  cl:∀{a b},N a→N b→N (m a b)
  ac:∀{a b c},N a→N b→N c→m (m a b) c=m a (m b c)
  e0:N z0
  l1:∀{a},N a→m z0 a=a
  r1:∀{a},N a→m a z0=a
  iv:∀{a},N a→∃b,N b∧m b a=z0∧m a b=z0
section
variable {N:V→Prop} {m:V→V→V}
theorem Grp.lc (h:Grp N m) {a b c:V} (ha:N a) (hb:N b) (hc:N c) (e:m a b=m a c):b=c:=by
  obtain⟨v,h1,h2,h3⟩:=h.iv ha
  rw[←h.l1 hb,←h2,h.ac h1 ha hb,e,←h.ac h1 ha hc,h2,h.l1 hc]
def rep (m:V→V→V) (x:V) (k:Nat):V:=itr (fun u=>m u x) k z0
theorem Grp.rep (h:Grp N m) {x:V} (hx:N x) (k:Nat):N (rep m x k):=itr_inv (fun y hy=>h.cl hy hx) _ _ h.e0
theorem Grp.itr_rep (h:Grp N m) {x u:V} (hx:N x) (hu:N u) (k:Nat):itr (fun u=>m u x) k u=m u (Go.Proofs.YtlcddiojeghfgaaGreatDoor.rep m x k):=by
  induction k with
  |zero=>exact(h.r1 hu).symm
  |succ k ih=>rw[itr,ih,h.ac hu (h.rep hx k) hx];rfl
theorem Grp.fim (h:Grp N m) {c:Nat→V} {x:V}:∀q j u,(∀k,j≤k→k<j+q→N (c k))→N u→Go.Proofs.YtlcddiojeghfgaaGreatDoor.fim m c x q j u=m u (Go.Proofs.YtlcddiojeghfgaaGreatDoor.fim m c x q j z0):=by
  intro q
  induction q with
  |zero=>exact fun _ u _ hu=>(h.r1 hu).symm
  | succ q ih=>
    intro j u hc hu
    have hj:N (c j):=hc j (by omega) (by omega)
    have hc':∀k,j+1≤k→k<j+1+q→N (c k):=fun k h1 h2=>hc k (by omega) (by omega)
    have h3:=fim_T (fun a b=>h.cl) q (j+1) z0 hc' h.e0 (x:=x)
    rw[Go.Proofs.YtlcddiojeghfgaaGreatDoor.fim,ih (j+1) _ hc' (itr_inv (fun y hy=>h.cl hy hj) _ _ hu),h.itr_rep hj hu,h.ac hu (h.rep hj _) h3,Go.Proofs.YtlcddiojeghfgaaGreatDoor.fim,
      ih (j+1) (itr _ _ z0) hc' (itr_inv (fun y hy=>h.cl hy hj) _ _ h.e0)]
    rfl
end
structure Ext (N:V→Prop) (m:V→V→V) (p:Nat) (w:V) (φ:V→V):Prop where
  g:Grp N m
  fc:∀{x},N x→N (φ x)
  fm:∀{x y},N x→N y→φ (m x y)=m (φ x) (φ y)
  f0:φ z0=z0
  hw:N w
  fw:φ w=w
  inn:∀{x},N x→m w (itr φ p x)=m x w
section
variable {N:V→Prop} {m:V→V→V} {p:Nat} {w:V} {φ:V→V}
theorem Ext.i0 (h:Ext N m p w φ) (k:Nat):itr φ k z0=z0:=by
  induction k with
  |zero=>rfl
  |succ k ih=>rw[itr,ih,h.f0]
end
end Go.Proofs.YtlcddiojeghfgaaGreatDoor
namespace Go.Proofs.YtlcddiojeghfgaaGreatDoor
variable {P:Pc}
theorem Grp.mk' {N:V→Prop} {m:V→V→V} (cl:∀{a b},N a→N b→N (m a b)) (ac:∀{a b c},N a→N b→N c→m (m a b) c=m a (m b c)) (e0:N z0)
    (l1:∀{a},N a→m z0 a=a) (iv:∀{a},N a→∃b,N b∧m b a=z0):Grp N m:=by
  have rv:∀{a b},N a→N b→m b a=z0→m a b=z0:=by
    intro a b ha hb h
    obtain⟨c,hc,h2⟩:=iv hb
    rw[←l1 (cl ha hb),←h2,ac hc hb (cl ha hb),←ac hb ha hb,h,l1 hb]
  refine⟨cl,ac,e0,l1,?_,?_⟩
  · intro a ha
    obtain⟨b,hb,h⟩:=iv ha
    rw[←h,←ac ha hb ha,rv ha hb h,l1 ha]
  · intro a ha
    obtain⟨b,hb,h⟩:=iv ha
    exact⟨b,hb,h,rv ha hb h⟩
def un (j:Nat):V:=fset z0 j 1
structure Cond (P:Pc) (i:Nat):Prop where
  pw:∀j,i<j→j<P.n→rep (M P (i+1)) (P.cj i j) (P.o j).toNat=img P (M P (i+1)) i (P.pw j)
  cj:∀j k,i<j→j<k→k<P.n→M P (i+1) (P.cj i k) (P.cj i j)=M P (i+1) (P.cj i j) (img P (M P (i+1)) i (P.cj j k))
  fx:img P (M P (i+1)) i (P.pw i)=P.pw i
  inn:∀j,i<j→j<P.n→M P (i+1) (P.pw i) (itr (img P (M P (i+1)) i) (P.o i).toNat (un j))=M P (i+1) (un j) (P.pw i)
def Con (P:Pc) (l:Nat):Prop:=∀i,l≤i→i<P.n→Cond P i
theorem Con.mono {l m:Nat} (h:Con P l) (hm:l≤m):Con P m:=fun i h1 h2=>h i (by omega) h2
theorem Grp.sub {N N':V→Prop} {m:V→V→V} (h:Grp N m) (hs:∀{x},N' x→N x) {a b c:V} (ha:N' a) (hb:N' b) (hc:N' c):m (m a b) c=m a (m b c):=h.ac (hs ha) (hs hb) (hs hc)
section
variable {i:Nat} (hv:Val P) (hg:Grp (T P (i+1)) (M P (i+1)))
include hv hg
end
end Go.Proofs.YtlcddiojeghfgaaGreatDoor
namespace Go.Proofs.YtlcddiojeghfgaaGreatDoor
variable {P:Pc}
def tl (l:Nat) (e:V):V:=fun k=>if k<l then 0 else e k
section
variable {l:Nat} (hg:Grp (T P l) (M P l))
include hg
end
end Go.Proofs.YtlcddiojeghfgaaGreatDoor
