import Derived.Test.YtnlfbimjcabgiaaGreatZ26
import Derived.Test.YtnlfbimjcabgiaaGreatZ29
set_option linter.unusedVariables false
set_option linter.unusedSimpArgs false
namespace Go.Proofs.YtnlfbimjcabgiaaGreat
open Nat (reduceAdd reduceSub reduceGT reduceEqDiff reduceMul)
section
variable (os:List Int) (pw:List (List Int)) (cj:List (List (List Int)))
theorem spec_l12Strip_o (h:presOk os pw cj) (hc:Con (pc os pw cj) 0) (t:Nat→Option V) (ht:tbT (pc os pw cj) t) (a:V) (hx:T (pc os pw cj) 0 a) (nx:Nat) (H:HP) (tid:Nat) (hH:H tid=some (tbl os.length t)):AC Tryz.prog 95 nx H [prs os pw cj,.h tid 0 os.length,vi os.length a] (fun nx' H' r=>r=strR os.length (strF (pc os pw cj) t os.length 0 a)∧H'=H):=by
 have hn6:=h.1.1
 have hv:=h.val
 refine AC.introx envOk Tryz.func95 rfl (by kernel_rfl) Tryz.ntmps95 Tryz.results95 (fun hfr=> ?_)
 refine AW.sr envOk (fun N hN=> ?_)
 simp-dsimp-implicitDefEqProofs (disch:=omega) only[go_sem,undef,prs,prsP,w64,vi,hH]
 refine hN _ ?_
 try clear hN N
 refine AW.freezeQ 3 nx _ rfl (upd_same _ _ _) ?_
 simp-dsimp-implicitDefEqProofs (disch:=omega) only[go_sem,undef]
 refine AW.sr envOk (fun N hN=> ?_)
 simp-dsimp-implicitDefEqProofs (disch:=omega) only[go_sem,undef,prs,prsP,w64,vi,hH]
 refine AC.pure (.of (own_vi os a (by omega))) ?_
 try simp-dsimp-implicitDefEqProofs (disch:=omega) only[go_sem,undef,prs,prsP,w64,vi,hH]
 refine hN _ ?_
 try clear hN N
 refine AW.seq (fun N1 hN1=> ?_)
 refine AW.sr envOk (fun N hN=> ?_)
 simp-dsimp-implicitDefEqProofs (disch:=omega) only[go_sem,undef,prs,prsP,w64,vi,hH]
 refine hN _ ?_
 try clear hN N
 refine AW.block ?_
 refine AW.loopN (α:=Nat×V) (fun x=>sl 48 [(1,.h tid 0 os.length),(3,prsP os pw cj),(8,vi os.length x.2),(9,.i .i64 x.1)]) (fun _=>H) (fun x m=>(x.1≤os.length∧T (pc os pw cj) 0 x.2)∧strF (pc os pw cj) t (os.length-x.1) x.1 x.2=strF (pc os pw cj) t os.length 0 a) (fun x=>os.length-x.1) ((0,a)) ?_ ?_ (by intro d cs hd;(try simp only[upd]);have hnn:=hfr nx (Nat.le_refl _);by_cases e:d=nx;(subst e;rw[hnn]at hd;cases hd);(simp only[e,if_false];exact hd)) ?_
 ·exact⟨⟨by omega,hx⟩,rfl⟩
 ·simp(disch:=omega) [wks,wkA,sl,prsP,ints,rows,cubes,vi]
 ·skip
  rintro⟨k,u⟩ m ⟨⟨hk,hu⟩,hI⟩
  dsimp only at hk hu hI ⊢
  simp only[vi,prsP]
  simp-dsimp-implicitDefEqProofs (disch:=omega) only[go_sem,undef]
  refine AW.seq (fun N2 hN2=> ?_)
  refine AW.sr envOk (fun N hN=> ?_)
  simp-dsimp-implicitDefEqProofs (disch:=omega) only[go_sem,undef,prs,prsP,w64,vi,hH]
  refine hN _ ?_
  try clear hN N
  refine AW.cond rfl (fun h1=> ?_) (fun h1=> ?_)
  ·try simp only[cn]at h1
   have hs:strF (pc os pw cj) t (os.length-k) k u=if u k=0 then strF (pc os pw cj) t (os.length-(k+1)) (k+1) u else match t k with
     |none=>(k,u)
     |some y=>strF (pc os pw cj) t (os.length-(k+1)) (k+1) (M (pc os pw cj) 0 u (pwV (pc os pw cj) y (0-u k))):=by
    obtain⟨q,hq⟩:∃q,os.length-k=q+1:=⟨os.length-k-1,by omega⟩
    rw[hq,strF,show os.length-(k+1)=q by omega]
    cases t k<;>rfl
   have hur:=hu.r k (by omega) (show k<os.length by omega)
   have huo:=pr4_bd (h.2.1 k (by omega))
   have hoe:(pc os pw cj).o k=os.getD k 0:=rfl
   refine AW.skip ?_
   simp only[thn,blk]
   refine hN2 _ ?_
   try clear hN2 N2
   refine AW.seq (fun N3 hN3=> ?_)
   refine AW.block ?_
   refine AW.seq (fun N4 hN4=> ?_)
   refine AW.sr envOk (fun N hN=> ?_)
   simp-dsimp-implicitDefEqProofs (disch:=omega) only[go_sem,undef,prs,prsP,w64,vi,hH]
   refine hN _ ?_
   try clear hN N
   refine AW.cond rfl (fun h2=> ?_) (fun h2=> ?_)
   ·try simp only[cn]at h2
    refine AW.exit ?_
    simp only[thn,blk,if_true]
    refine hN3 _ ?_
    try clear hN3 N3
    refine AW.regionL envOk ?_
    simp-dsimp-implicitDefEqProofs (disch:=omega) only[go_sem,undef,prs,prsP,w64,vi,hH]
    refine⟨(k+1,u),?_,fun _ _ h=>h,?_,?_⟩
    ·simp(disch:=omega) [wks,wkA,sl,w64,ints,rows,cubes,prs,prsP,w64,vi,hH]<;>omega
    ·exact⟨⟨by omega,hu⟩,by (try simp only[]);rw[←hI,hs,if_pos h2]⟩
    ·first|omega|(simp only;omega)
   ·try simp only[cn]at h2
    refine AW.skip ?_
    simp only[thn,blk]
    refine hN4 _ ?_
    try clear hN4 N4
    refine AW.seq (fun N5 hN5=> ?_)
    refine AW.sr envOk (fun N hN=> ?_)
    simp-dsimp-implicitDefEqProofs (disch:=omega) only[go_sem,undef,prs,prsP,w64,vi,hH]
    refine hN _ ?_
    try clear hN N
    refine AW.cond rfl (fun h3=> ?_) (fun h3=> ?_)
    ·try simp only[cn]at h3
     have hy:t k=none:=by
      cases hq:t k with
      |none=>rfl
      |some y=>rw[hq,tkl]at h3;omega
     refine AW.sr envOk (fun N hN=> ?_)
     simp-dsimp-implicitDefEqProofs (disch:=omega) only[go_sem,undef,prs,prsP,w64,vi,hH]
     refine hN _ ?_
     try clear hN N
     refine AW.ret ?_
     simp-dsimp-implicitDefEqProofs (disch:=omega) only[go_sem,undef]
     exact⟨_,fun _ _ h=>h,by rw[←hI,hs,if_neg h2,hy];rfl,rfl⟩
    ·try simp only[cn]at h3
     obtain⟨y,hy⟩:∃y,t k=some y:=by
      cases hq:t k with
      |none=>rw[hq,tkl]at h3;exact absurd rfl h3
      |some y=>exact⟨y,rfl⟩
     have hyT:=ht k y hy
     have hyv:AV.v (tkl os.length (t k)) (tkc os.length (t k))=vi os.length y:=by rw[hy];rfl
     have hpT:=pwV_T hv hc hyT (0-u k)
     refine AW.skip ?_
     simp only[thn,blk]
     refine hN5 _ ?_
     try clear hN5 N5
     refine AW.drawL envOk (by kernel_rfl) 15 (by kernel_rfl) ?_
     simp-dsimp-implicitDefEqProofs (disch:=omega) only[hr_nil,hr_one,hr_if,List.take_succ_cons,List.take_zero,List.drop_succ_cons,List.drop_zero,List.take_nil,List.drop_nil,go_sem,undef,prs,prsP,w64,vi,hH]
     rw[hyv]
     refine⟨_,.of (spec_l10Pow_ok os pw cj h hc y hyT (0-u k) (by omega)),?_⟩
     try simp-dsimp-implicitDefEqProofs (disch:=omega) only[go_sem,undef,prs,prsP,w64,vi,hH]
     refine⟨_,.of (spec_l08Mul_ok os pw cj h _ _ hu hpT),?_⟩
     try simp-dsimp-implicitDefEqProofs (disch:=omega) only[go_sem,undef,prs,prsP,w64,vi,hH]
     refine hN3 _ ?_
     try clear hN3 N3
     refine AW.regionL envOk ?_
     simp-dsimp-implicitDefEqProofs (disch:=omega) only[go_sem,undef,prs,prsP,w64,vi,hH]
     refine⟨(k+1,M (pc os pw cj) 0 u (pwV (pc os pw cj) y (0-u k))),?_,fun _ _ h=>h,?_,?_⟩
     ·simp(disch:=omega) [wks,wkA,sl,w64,ints,rows,cubes,prs,prsP,w64,vi,hH]<;>omega
     ·exact⟨⟨by omega,M_T hv hu hpT⟩,by (try simp only[]);rw[←hI,hs,if_neg h2,hy]⟩
     ·first|omega|(simp only;omega)
  ·try simp only[cn]at h1
   refine AW.exit ?_
   simp only[thn,blk,if_true]
   refine hN1 _ ?_
   try clear hN1 N1
   refine AW.sr envOk (fun N hN=> ?_)
   simp-dsimp-implicitDefEqProofs (disch:=omega) only[go_sem,undef,prs,prsP,w64,vi,hH]
   refine hN _ ?_
   try clear hN N
   refine AW.ret ?_
   simp-dsimp-implicitDefEqProofs (disch:=omega) only[go_sem,undef]
   exact⟨_,fun _ _ h=>h,by rw[←hI,show os.length-k=0 by omega,strF,show k=os.length by omega];rfl,rfl⟩
end
end Go.Proofs.YtnlfbimjcabgiaaGreat
namespace Go.Proofs.YtnlfbimjcabgiaaGreat
open Nat (reduceAdd reduceSub reduceGT reduceEqDiff reduceMul)
section
variable {P:Pc} (hv:Val P) {d:Nat}
include hv
theorem M_lead (hd:d<P.n) {a b:V} (ha:T P d a) (hb:T P d b):M P 0 a b d=(a d+b d)%P.o d:=by
  have h1:=ha.r d (Nat.le_refl _) hd
  have h2:=hb.r d (Nat.le_refl _) hd
  rw[M_sub hv (Nat.zero_le d) ha hb,M_lt hd]
  unfold stp
  split
  · rw[fset_at,←Int.sub_emod_right,Int.emod_eq_of_lt (by omega) (by omega)]
  · rw[fset_at,Int.emod_eq_of_lt (by omega) (by omega)]
theorem M_Td {a b:V} (ha:T P d a) (hb:T P d b):T P d (M P 0 a b):=by
  rw[M_sub hv (Nat.zero_le d) ha hb]
  exact M_T hv ha hb
theorem rep_lead (hd:d<P.n) {a:V} (ha:T P d a):∀k:Nat,T P d (rep (M P 0) a k)∧rep (M P 0) a k d=((k:Int)*a d)%P.o d:=by
  intro k
  have h1:=ha.r d (Nat.le_refl _) hd
  induction k with
  |zero=>exact⟨T.zero hv d,by simp[rep,itr,z0]⟩
  | succ k ih=>
    have hs:rep (M P 0) a (k+1)=M P 0 (rep (M P 0) a k) a:=rfl
    refine⟨by rw[hs];exact M_Td hv ih.1 ha,?_⟩
    rw[hs,M_lead hv hd ih.1 ha,ih.2,Int.emod_add_emod,Int.natCast_succ,Int.add_mul,Int.one_mul]
theorem inv_Td (hc:Con P 0) {a:V} (ha:T P d a):T P d (inv P 0 a):=by
  have hg0:=con_grp hv hc
  have hgd:=con_grp hv (hc.mono (Nat.zero_le d))
  obtain⟨h1,h2⟩:=inv_T hgd ha
  have h3:inv P d a=inv P 0 a:=inv_eq hg0 (ha.mono hv (Nat.zero_le d)) (h1.mono hv (Nat.zero_le d)) (by rw[M_sub hv (Nat.zero_le d) ha h1];exact h2)
  rw[←h3]
  exact h1
theorem inv_lead (hc:Con P 0) (hd:d<P.n) {a:V} (ha:T P d a):(a d+inv P 0 a d)%P.o d=0:=by
  have hg0:=con_grp hv hc
  have h2:=(inv_T hg0 (ha.mono hv (Nat.zero_le d))).2
  rw[←M_lead hv hd ha (inv_Td hv hc ha),h2]
  rfl
theorem pw_lead (hc:Con P 0) (hd:d<P.n) {a:V} (ha:T P d a) (k:Int):T P d (pwV P a k)∧pwV P a k d=(k*a d)%P.o d:=by
  unfold pwV
  split
  · rename_i hk
    obtain⟨h1,h2⟩:=rep_lead hv hd (inv_Td hv hc ha) (0-k).toNat
    refine⟨h1,?_⟩
    rw[h2,Int.toNat_of_nonneg (by omega)]
    have h3:=inv_lead hv hc hd ha
    rw[Int.emod_eq_emod_iff_emod_sub_eq_zero]
    rw[show(0-k)*inv P 0 a d-k*a d=(0-k)*(a d+inv P 0 a d) by rw[Int.mul_add,Int.sub_mul,Int.sub_mul,Int.zero_mul,Int.zero_mul];omega]
    rw[Int.mul_emod,h3,Int.mul_zero,Int.zero_emod]
  · rename_i hk
    obtain⟨h1,h2⟩:=rep_lead hv hd ha k.toNat
    refine⟨h1,?_⟩
    rw[h2,Int.toNat_of_nonneg (by omega)]
theorem down_lead (hc:Con P 0) (hd:d<P.n) {u y:V} (hu:T P d u) (hy:T P d y) (h1:y d=1):T P (d+1) (M P 0 u (pwV P y (0-u d))):=by
  obtain⟨p1,p2⟩:=pw_lead hv hc hd hy (0-u d)
  have hT:=M_Td hv hu p1
  have hl:=M_lead hv hd hu p1
  rw[p2,h1,Int.mul_one,Int.add_emod_emod,show u d+(0-u d)=0 by omega,Int.zero_emod]at hl
  refine⟨fun k hk=> ?_,fun k h2 h3=>hT.r k (by omega) h3,hT.t⟩
  by_cases e:k=d
  · subst e;exact hl
  · exact hT.z k (by omega)
end
end Go.Proofs.YtnlfbimjcabgiaaGreat
namespace Go.Proofs.YtnlfbimjcabgiaaGreat
open Nat (reduceAdd reduceSub reduceGT reduceEqDiff reduceMul)
section
variable (os:List Int)
theorem spec_l01Own2_n (hn:os.length≤6) (us:List V) (hl:us.length≤1048576) (nx:Nat):AC Tryz.prog 94 nx noH [vls os.length us] (fun nx' H' r=>∃id,r= .h id 0 us.length∧nx≤id∧id<nx'∧H' id=some (us.map (vi os.length))):=by
 refine AC.introx envOk Tryz.func94 rfl (by kernel_rfl) Tryz.ntmps94 Tryz.results94 (fun hfr=> ?_)
 refine AW.sr envOk (fun N hN=> ?_)
 simp-dsimp-implicitDefEqProofs (disch:=omega) only[go_sem,undef,w64,vls,vi]
 refine hN _ ?_
 try clear hN N
 refine AW.sr envOk (fun N hN=> ?_)
 simp-dsimp-implicitDefEqProofs (disch:=omega) only[go_sem,undef,w64,vls,vi]
 refine hN _ ?_
 try clear hN N
 refine AW.seq (fun N1 hN1=> ?_)
 refine AW.sr envOk (fun N hN=> ?_)
 simp-dsimp-implicitDefEqProofs (disch:=omega) only[go_sem,undef,w64,vls,vi]
 refine hN _ ?_
 try clear hN N
 refine AW.block ?_
 refine AW.loopN (α:=Nat×Nat×List V) (fun x=>sl 21 [(0,vls os.length us),(3,.h x.2.1 0 x.2.2.length),(4,.i .i64 x.1)]) (fun x=>upd noH x.2.1 (some (x.2.2.map (vi os.length)))) (fun x m=>(x.1≤us.length∧nx≤x.2.1∧x.2.1<m)∧x.2.2=us.take x.1) (fun x=>us.length-x.1) ((0,nx+1,[])) ?_ ?_ (by intro d cs hd;simp only[upd,noH,List.map_nil]at hd ⊢;grind) ?_
 ·exact⟨⟨by omega,by first|omega|(simp only;omega)|(dsimp only;omega),by first|omega|(simp only;omega)|(dsimp only;omega)⟩,rfl⟩
 ·simp(disch:=omega) [wks,wkA,sl,vls]
 ·skip
  rintro⟨k,id,K⟩ m ⟨⟨hk,hid,hm⟩,hK⟩
  dsimp only at hk hid hm hK ⊢
  have hKl:K.length=k:=by rw[hK,List.length_take];omega
  refine AW.seq (fun N2 hN2=> ?_)
  refine AW.sr envOk (fun N hN=> ?_)
  simp-dsimp-implicitDefEqProofs (disch:=omega) only[go_sem,undef,w64,vls,vi]
  refine hN _ ?_
  try clear hN N
  refine AW.cond rfl (fun h1=> ?_) (fun h1=> ?_)
  ·try simp only[cn]at h1
   have ht:us.take (k+1)=us.take k++[us.getD k z0]:=by
    rw[List.take_succ_eq_append_getElem (show k<us.length by omega)]
    simp[show k<us.length by omega]
   refine AW.skip ?_
   simp only[thn,blk]
   refine hN2 _ ?_
   try clear hN2 N2
   refine AW.seq (fun N3 hN3=> ?_)
   refine AW.block ?_
   refine AW.regionL envOk ?_
   simp-dsimp-implicitDefEqProofs (disch:=omega) only[go_sem,undef,w64,vls,vi]
   refine AC.pure (.of (own_vi os (us.getD k z0) (by omega))) ?_
   try simp-dsimp-implicitDefEqProofs (disch:=omega) only[go_sem,undef,w64,vls,vi]
   refine hN3 _ ?_
   try clear hN3 N3
   refine AW.regionL envOk ?_
   simp-dsimp-implicitDefEqProofs (disch:=omega) only[go_sem,undef,w64,vls,vi]
   refine⟨(k+1,m+4+7,K++[us.getD k z0]),?_,(by intro d cs hd;simp only[upd,noH,tk_map,List.map_append,List.map_cons,List.map_nil,vi]at hd ⊢;grind),?_,?_⟩
   ·simp(disch:=omega) [wks,wkA,sl,w64,vls]
   ·exact⟨⟨by omega,by first|omega|(simp only;omega)|(dsimp only;omega),by first|omega|(simp only;omega)|(dsimp only;omega)⟩,by (try simp only[]);rw[ht,hK]⟩
   ·first|omega|(simp only;omega)
  ·try simp only[cn]at h1
   refine AW.exit ?_
   simp only[thn,blk,if_true]
   refine hN1 _ ?_
   try clear hN1 N1
   refine AW.sr envOk (fun N hN=> ?_)
   simp-dsimp-implicitDefEqProofs (disch:=omega) only[go_sem,undef,w64,vls,vi]
   refine hN _ ?_
   try clear hN N
   refine AW.ret ?_
   simp-dsimp-implicitDefEqProofs (disch:=omega) only[go_sem,undef]
   have hfin:K=us:=by rw[hK,show k=us.length by omega,List.take_length]
   rw[hfin]
   exact⟨_,fun _ _ h=>h,id,rfl,hid,by omega,upd_same _ _ _⟩
end
end Go.Proofs.YtnlfbimjcabgiaaGreat
namespace Go.Proofs.YtnlfbimjcabgiaaGreat
open Nat (reduceAdd reduceSub reduceGT reduceEqDiff reduceMul)
def tbG (P:Pc) (t:Nat→Option V):Prop:=∀d y,t d=some y→d<P.n∧T P d y∧y d=1
theorem tbG.T {P:Pc} (hv:Val P) {t:Nat→Option V} (h:tbG P t):tbT P t:=fun d y hy=>(h d y hy).2.1.mono hv (Nat.zero_le d)
theorem T.up {P:Pc} {d:Nat} {x:V} (h:Go.Proofs.YtnlfbimjcabgiaaGreat.T P d x) (h0:x d=0):Go.Proofs.YtnlfbimjcabgiaaGreat.T P (d+1) x:=by
  refine⟨fun k hk=> ?_,fun k h2 h3=>h.r k (by omega) h3,h.t⟩
  by_cases e:k=d
  · subst e;exact h0
  · exact h.z k (by omega)
theorem str_sp {P:Pc} (hv:Val P) (hc:Con P 0) {t:Nat→Option V} (ht:tbG P t):∀f d x,d+f=P.n→T P d x→
    d≤(strF P t f d x).1∧(strF P t f d x).1≤P.n∧T P (strF P t f d x).1 (strF P t f d x).2∧((strF P t f d x).1<P.n→t (strF P t f d x).1=none∧(strF P t f d x).2 (strF P t f d x).1≠0):=by
  intro f
  induction f with
  |zero=>intro d x hd hx;rw[strF];exact⟨Nat.le_refl _,by omega,hx,fun h=>absurd h (by dsimp only;omega)⟩
  | succ f ih=>
    intro d x hd hx
    rw[strF]
    split
    · rename_i h0
      obtain⟨i1,i2,i3,i4⟩:=ih (d+1) x (by omega) (hx.up h0)
      exact⟨by omega,i2,i3,i4⟩
    · rename_i h0
      cases hy:t d with
      |none=>exact⟨Nat.le_refl _,by dsimp only;omega,hx,fun _=>⟨hy,h0⟩⟩
      | some y=>
        obtain⟨y1,y2,y3⟩:=ht d y hy
        obtain⟨i1,i2,i3,i4⟩:=ih (d+1) _ (by omega) (down_lead hv hc y1 hx y2 y3)
        exact⟨Nat.le_trans (Nat.le_succ d) i1,i2,i3,i4⟩
noncomputable def comL (P:Pc) (t:Nat→Option V) (d:Nat) (y:V):Nat→List V
  |0=>[]
  | e+1=>match t e with
    |none=>comL P t d y e
    |some z=>if e=d then comL P t d y e else comL P t d y e++[cmV P y z]
theorem comL_len {P:Pc} {t:Nat→Option V} {d:Nat} {y:V}:∀e,(comL P t d y e).length≤e:=by
  intro e
  induction e with
  |zero=>exact Nat.le_refl _
  | succ e ih=>
    rw[comL]
    split
    · omega
    · split
      · omega
      · rw[List.length_append];simp;omega
noncomputable def clY (P:Pc) (s:Nat×V):V:=pwV P s.2 (invP (P.o s.1) (s.2 s.1))
noncomputable def clR (P:Pc) (t:Nat→Option V) (w:List V) (s:Nat×V):(Nat→Option V)×List V:=
  if s.1=P.n then (t,w)else (oset t s.1 (clY P s),w++[s.2]++[pwV P (clY P s) (P.o s.1)]++comL P (oset t s.1 (clY P s)) s.1 (clY P s) P.n)
noncomputable def clS (P:Pc) (t:Nat→Option V) (w:List V):Nat×V:=strF P t P.n 0 (w.getD (w.length-1) z0)
noncomputable def cloF (P:Pc):Nat→(Nat→Option V)→List V→Nat→Option V
  |0,t,_=>t
  |f+1,t,w=>if w.length=0 then t else cloF P f (clR P t (w.take (w.length-1)) (clS P t w)).1 (clR P t (w.take (w.length-1)) (clS P t w)).2
def frN (t:Nat→Option V):Nat→Nat
  |0=>0
  | k+1=>match t k with
    |none=>frN t k+1
    |some _=>frN t k
theorem frN_set {t:Nat→Option V} {d:Nat} {y:V} (hd:t d=none):∀k,(k≤d→frN (oset t d y) k=frN t k)∧(d<k→frN (oset t d y) k+1=frN t k):=by
  intro k
  induction k with
  |zero=>exact⟨fun _=>rfl,fun h=>by omega⟩
  | succ k ih=>
    rw[frN,frN]
    by_cases e:k=d
    · subst e
      have h1:oset t k y k=some y:=by simp[oset]
      rw[h1,hd]
      exact⟨fun h=>by omega,fun _=>by have:=ih.1 (Nat.le_refl _);dsimp only;omega⟩
    · have h1:oset t d y k=t k:=by simp[oset,e]
      rw[h1]
      refine⟨fun h=> ?_,fun h=> ?_⟩
      · have:=ih.1 (by omega);cases t k<;>dsimp only<;>omega
      · have:=ih.2 (by omega);cases t k<;>dsimp only<;>omega
def clM (P:Pc) (t:Nat→Option V) (w:List V):Nat:=frN t P.n*(P.n+3)+w.length
theorem clM_dec {P:Pc} (hv:Val P) (hc:Con P 0) {t:Nat→Option V} (ht:tbG P t) {w:List V} (hw:w.length≠0) (hT:T P 0 (w.getD (w.length-1) z0)):
    clM P (clR P t (w.take (w.length-1)) (clS P t w)).1 (clR P t (w.take (w.length-1)) (clS P t w)).2<clM P t w:=by
  obtain⟨i1,i2,i3,i4⟩:=str_sp hv hc ht P.n 0 _ (by omega) hT
  have hl:(w.take (w.length-1)).length=w.length-1:=by rw[List.length_take];omega
  unfold clM clR clS
  split
  · dsimp only;rw[hl];omega
  · rename_i hne
    obtain⟨j1,j2⟩:=i4 (by omega)
    have h2:=(frN_set (y:=clY P (strF P t P.n 0 (w.getD (w.length-1) z0))) j1 P.n).2 (by omega)
    have h3:=comL_len (P:=P) (t:=oset t (strF P t P.n 0 (w.getD (w.length-1) z0)).1 (clY P (strF P t P.n 0 (w.getD (w.length-1) z0)))) (d:=(strF P t P.n 0 (w.getD (w.length-1) z0)).1) (y:=clY P (strF P t P.n 0 (w.getD (w.length-1) z0))) P.n
    dsimp only
    rw[←h2,Nat.add_mul,Nat.one_mul]
    simp only[List.length_append,List.length_cons,List.length_nil,hl]
    omega
theorem clY_sp {P:Pc} (hv:Val P) (hc:Con P 0) (hp:∀d,d<P.n→pr4 (P.o d)) {s:Nat×V} (h1:s.1<P.n) (hT:T P s.1 s.2) (hn:s.2 s.1≠0):T P s.1 (clY P s)∧clY P s s.1=1:=by
  have hr:=hT.r s.1 (Nat.le_refl _) h1
  obtain⟨p1,p2⟩:=pw_lead hv hc h1 hT (invP (P.o s.1) (s.2 s.1))
  obtain⟨q1,q2,q3⟩:=invP_ok (hp _ h1) (show 1≤s.2 s.1 by omega) hr.2
  refine⟨p1,?_⟩
  rw[clY,p2,Int.mul_comm]
  exact q3
theorem comL_T {P:Pc} (hv:Val P) (hc:Con P 0) {t:Nat→Option V} (ht:tbT P t) {d:Nat} {y:V} (hy:T P 0 y):∀e x,x∈comL P t d y e→T P 0 x:=by
  intro e
  induction e with
  |zero=>intro x hx;cases hx
  | succ e ih=>
    intro x hx
    rw[comL]at hx
    split at hx
    · exact ih x hx
    · rename_i z hz
      split at hx
      · exact ih x hx
      · rcases List.mem_append.1 hx with h|h
        · exact ih x h
        · rw[List.mem_singleton.1 h];exact cmV_T hv hc hy (ht _ _ hz)
theorem clR_G {P:Pc} (hv:Val P) (hc:Con P 0) (hp:∀d,d<P.n→pr4 (P.o d)) {t:Nat→Option V} (ht:tbG P t) {w:List V} (hw:∀x∈w,T P 0 x) {x:V} (hx:T P 0 x):
    tbG P (clR P t w (strF P t P.n 0 x)).1∧∀z∈(clR P t w (strF P t P.n 0 x)).2,T P 0 z:=by
  obtain⟨i1,i2,i3,i4⟩:=str_sp hv hc ht P.n 0 x (by omega) hx
  obtain⟨s,hs⟩:∃s,strF P t P.n 0 x=s:=⟨_,rfl⟩
  rw[hs]at i1 i2 i3 i4 ⊢
  unfold clR
  split
  · exact⟨ht,hw⟩
  · rename_i hne
    obtain⟨j1,j2⟩:=i4 (by omega)
    obtain⟨y1,y2⟩:=clY_sp hv hc hp (by omega) i3 j2
    have hy0:=y1.mono hv (Nat.zero_le _)
    have hG:tbG P (oset t s.1 (clY P s)):=by
      intro d z hz
      unfold oset at hz
      split at hz
      · rename_i e
        subst e;cases hz
        exact⟨by omega,y1,y2⟩
      · exact ht d z hz
    refine⟨hG,fun z hz=> ?_⟩
    rcases List.mem_append.1 hz with h|h
    · rcases List.mem_append.1 h with h|h
      · rcases List.mem_append.1 h with h|h
        · exact hw z h
        · rw[List.mem_singleton.1 h];exact i3.mono hv (Nat.zero_le _)
      · rw[List.mem_singleton.1 h];exact pwV_T hv hc hy0 _
    · exact comL_T hv hc (hG.T hv) hy0 _ z h
end Go.Proofs.YtnlfbimjcabgiaaGreat
namespace Go.Proofs.YtnlfbimjcabgiaaGreat
open Nat (reduceAdd reduceSub reduceGT reduceEqDiff reduceMul)
theorem frN_le {t:Nat→Option V}:∀k,frN t k≤k:=by
  intro k
  induction k with
  |zero=>exact Nat.le_refl _
  |succ k ih=>rw[frN];split<;>omega
section
variable (os:List Int) (pw:List (List Int)) (cj:List (List (List Int)))
set_option maxHeartbeats 1000000 in
theorem spec_l12Close_n (h:presOk os pw cj) (hc:Con (pc os pw cj) 0) (us:List V) (hl:us.length≤1000) (hu:∀x∈us,T (pc os pw cj) 0 x) (nx:Nat):AC Tryz.prog 55 nx noH [prs os pw cj,vls os.length us] (fun nx' H' r=>OwS os.length nx nx' noH H' r (outS (dnS (pc os pw cj) os.length (cloF (pc os pw cj) (clM (pc os pw cj) (fun _=>none) us) (fun _=>none) us) os.length) os.length)):=by
 have hn6:=h.1.1
 have hv:=h.val
 have hpr:=h.2.1
 have hM0:clM (pc os pw cj) (fun _=>none) us≤2000:=by
  have h1:frN (fun _=>none) os.length*(os.length+3)≤6*9:=Nat.mul_le_mul (Nat.le_trans (frN_le _) hn6) (by omega)
  show frN (fun _=>none) os.length*(os.length+3)+us.length≤2000
  omega
 obtain⟨R,hR⟩:∃R,cloF (pc os pw cj) (clM (pc os pw cj) (fun _=>none) us) (fun _=>none) us=R:=⟨_,rfl⟩
 rw[hR]
 refine AC.introx envOk Tryz.func55 rfl (by kernel_rfl) Tryz.ntmps55 Tryz.results55 (fun hfr=> ?_)
 refine AW.sr envOk (fun N hN=> ?_)
 simp-dsimp-implicitDefEqProofs (disch:=omega) only[go_sem,undef,prs,prsP,w64,vi]
 refine hN _ ?_
 try clear hN N
 refine AW.freezeQ 2 nx _ rfl (upd_same _ _ _) ?_
 simp-dsimp-implicitDefEqProofs (disch:=omega) only[go_sem,undef]
 refine AW.sr envOk (fun N hN=> ?_)
 simp-dsimp-implicitDefEqProofs (disch:=omega) only[go_sem,undef,prs,prsP,w64,vi]
 refine hN _ ?_
 try clear hN N
 refine AW.sr envOk (fun N hN=> ?_)
 simp-dsimp-implicitDefEqProofs (disch:=omega) only[go_sem,undef,prs,prsP,w64,vi]
 refine hN _ ?_
 try clear hN N
 refine AW.fznl (nx+2+4+1) os.length (upd_same _ _ _) ?_
 rw[tbl_nil]
 simp-dsimp-implicitDefEqProofs (disch:=omega) only[go_sem,undef]
 refine AW.sr envOk (fun N hN=> ?_)
 simp-dsimp-implicitDefEqProofs (disch:=omega) only[go_sem,undef,prs,prsP,w64,vi]
 refine AC.mono (AC.frame (spec_l01Own2_n os (by omega) us (by omega) _)) ?_
 rintro m1 H1 r1 ⟨H0,⟨id,rfl,hid1,hid2,hHid⟩,hlow,hhigh⟩
 have hH1:=(hhigh id hid1).trans hHid
 have hH2:H1 (nx+2+4+1)=some (tbl os.length (fun _=>none)):=(hlow _ (by omega)).trans (upd_same _ _ _)
 clear hHid hhigh hlow
 try simp-dsimp-implicitDefEqProofs (disch:=omega) only[go_sem,undef,prs,prsP,w64,vi]
 refine hN _ ?_
 try clear hN N
 refine AW.seq (fun N1 hN1=> ?_)
 refine AW.block ?_
 refine AW.loopN (α:=(Nat→Option V)×Nat×List V×Nat×Nat) (fun x=>sl 105 [(2,prsP os pw cj),(5,.i .i64 os.length),(6,.h (nx+2+4+1) 0 os.length),(7,.h x.2.1 0 x.2.2.2.1)]) (fun x=>upd (upd noH (nx+2+4+1) (some (tbl os.length x.1))) x.2.1 (some (x.2.2.1.map (vi os.length)))) (fun x m=>((x.2.2.2.1≤x.2.2.1.length∧x.2.2.2.2≤2000)∧nx+2+4+1<x.2.1∧x.2.1<m)∧(tbG (pc os pw cj) x.1∧∀y∈x.2.2.1.take x.2.2.2.1,T (pc os pw cj) 0 y)∧clM (pc os pw cj) x.1 (x.2.2.1.take x.2.2.2.1)≤x.2.2.2.2∧cloF (pc os pw cj) x.2.2.2.2 x.1 (x.2.2.1.take x.2.2.2.1)=R) (fun x=>x.2.2.2.2) ((fun _=>none,id,us,us.length,clM (pc os pw cj) (fun _=>none) us)) ?_ ?_ (by intro d cs hd;simp only[upd,noH]at hd ⊢;grind) ?_
 ·(refine⟨⟨⟨Nat.le_refl _,hM0⟩,(by dsimp only;omega),(by first|omega|(simp only;omega)|(dsimp only;omega))⟩,⟨fun d y hy=>(by cases hy),fun y hy=>hu y (by simpa using hy)⟩,by simp,by simpa using hR⟩)
 ·simp(disch:=omega) [wks,wkA,sl,prsP,ints,rows,cubes,vls]
 ·skip
  rintro⟨t,id2,W,k,f⟩ m ⟨⟨⟨hk,hf2⟩,hid3,hid4⟩,⟨hG,hW⟩,hM,hC⟩
  dsimp only at hk hf2 hid3 hid4 hG hW hM hC ⊢
  simp only[prsP]
  simp-dsimp-implicitDefEqProofs (disch:=omega) only[go_sem,undef]
  refine AW.seq (fun N2 hN2=> ?_)
  refine AW.sr envOk (fun N hN=> ?_)
  simp-dsimp-implicitDefEqProofs (disch:=omega) only[go_sem,undef,prs,prsP,w64,vi]
  refine hN _ ?_
  try clear hN N
  refine AW.cond rfl (fun h1=> ?_) (fun h1=> ?_)
  ·try simp only[cn]at h1
   have hk1:1≤k:=by omega
   have hwl:(W.take k).length=k:=by rw[List.length_take];omega
   have hk2:k≤2000:=by unfold clM at hM;omega
   obtain⟨a,ha⟩:∃a,W.getD (k-1) z0=a:=⟨_,rfl⟩
   have hwa:(W.take k).getD ((W.take k).length-1) z0=a:=by
    rw[hwl,←ha]
    simp only[List.getD_eq_getElem?_getD]
    rw[List.getElem?_take,if_pos (by omega)]
   have haT:T (pc os pw cj) 0 a:=by
    rw[←hwa]
    exact hW _ (by rw[List.getD_eq_getElem?_getD,List.getElem?_eq_getElem (by omega)];exact List.getElem_mem _)
   have e1:((k:Int)-1).toNat=k-1:=by omega
   have hg1:(W.map (vi os.length)).getD (k-1) .j=vi os.length a:=by rw[vls_get (by omega),ha]
   refine AW.skip ?_
   simp only[thn,blk]
   refine hN2 _ ?_
   try clear hN2 N2
   refine AW.block ?_
   refine AW.sr envOk (fun N hN=> ?_)
   simp-dsimp-implicitDefEqProofs (disch:=omega) only[go_sem,undef,prs,prsP,w64,vi,e1,hg1]
   refine hN _ ?_
   try clear hN N
   refine AW.sr envOk (fun N hN=> ?_)
   simp-dsimp-implicitDefEqProofs (disch:=omega) only[go_sem,undef,prs,prsP,w64,vi,e1]
   refine hN _ ?_
   try clear hN N
   refine AW.sr envOk (fun N hN=> ?_)
   simp-dsimp-implicitDefEqProofs (disch:=omega) only[go_sem,undef,prs,prsP,w64,vi]
   refine(spec_l12Strip_o os pw cj h hc t (hG.T hv) a haT _ _ (nx+2+4+1) ((upd_ne _ _ (by omega)).trans (upd_same _ _ _))).mono2 ?_
   rintro m3 _ _ hm3 ⟨rfl,rfl⟩
   obtain⟨⟨sd,su⟩,hs⟩:∃s,strF (pc os pw cj) t os.length 0 a=s:=⟨_,rfl⟩
   rw[hs,strR]
   dsimp only
   try simp-dsimp-implicitDefEqProofs (disch:=omega) only[go_sem,undef,prs,prsP,w64,vi]
   obtain⟨f',hf⟩:∃f',f=f'+1:=⟨f-1,by unfold clM at hM;omega⟩
   subst hf
   have hcs:clS (pc os pw cj) t (W.take k)=(sd,su):=by rw[clS,hwa];exact hs
   have htk:(W.take k).take ((W.take k).length-1)=W.take (k-1):=by rw[hwl,List.take_take];congr 1;omega
   have hdec:=clM_dec hv hc hG (w:=W.take k) (by omega) (by rw[hwa];exact haT)
   have hct:=hC
   rw[cloF,if_neg (by omega)]at hct
   rw[hcs,htk]at hct hdec
   have hW':∀y∈W.take (k-1),T (pc os pw cj) 0 y:=fun y hy=>hW y (List.mem_of_mem_take (by rw[←htk]at hy;exact hy))
   refine hN _ ?_
   try clear hN N
   refine AW.seq (fun N3 hN3=> ?_)
   refine AW.sr envOk (fun N hN=> ?_)
   simp-dsimp-implicitDefEqProofs (disch:=omega) only[go_sem,undef,prs,prsP,w64,vi]
   refine hN _ ?_
   try clear hN N
   refine AW.cond rfl (fun h2=> ?_) (fun h2=> ?_)
   ·try simp only[cn]at h2
    have hcr:clR (pc os pw cj) t (W.take (k-1)) (sd,su)=(t,W.take (k-1)):=by rw[clR,if_pos (show sd=(pc os pw cj).n from (by show sd=os.length;omega))]
    rw[hcr]at hct hdec
    refine AW.exit ?_
    simp only[thn,blk,if_true]
    refine⟨(t,id2,W,k-1,f'),?_,fun _ _ h=>h,?_,?_⟩
    ·simp(disch:=omega) [wks,wkA,sl,prsP,ints,rows,cubes]<;>omega
    ·try dsimp only
     exact⟨⟨⟨by omega,by omega⟩,hid3,by first|omega|(simp only;omega)|(dsimp only;omega)⟩,⟨hG,hW'⟩,by (try (dsimp only at hdec));omega,hct⟩
    ·first|omega|(simp only;omega)
   ·try simp only[cn]at h2
    obtain⟨i1,i2,i3,i4⟩:=str_sp hv hc hG os.length 0 a (Nat.zero_add _) haT
    rw[hs]at i2 i3 i4
    dsimp only at i2 i3 i4
    have i2':sd≤os.length:=i2
    have hd1:sd<os.length:=by omega
    obtain⟨j1,j2⟩:=i4 hd1
    have hr:=i3.r sd (Nat.le_refl _) hd1
    have hoe:(pc os pw cj).o sd=os.getD sd 0:=rfl
    have hp4:=hpr sd hd1
    have hpb:=pr4_bd hp4
    have hsT:=i3.mono hv (Nat.zero_le _)
    obtain⟨v1,v2,v3⟩:=invP_ok hp4 (show 1≤su sd by omega) (by omega)
    obtain⟨yT1,yl⟩:=clY_sp hv hc (fun d hd=>hpr d hd) (s:=(sd,su)) hd1 i3 j2
    have hyT:=yT1.mono hv (Nat.zero_le _)
    have hpy:=spec_l10Pow_ok os pw cj h hc su hsT (invP (os.getD sd 0) (su sd)) (by omega)
    obtain⟨y,hy⟩:∃y,clY (pc os pw cj) (sd,su)=y:=⟨_,rfl⟩
    rw[show pwV (pc os pw cj) su (invP (os.getD sd 0) (su sd))=y from hy]at hpy
    rw[hy]at hyT yT1 yl
    have hpz:=spec_l10Pow_ok os pw cj h hc y hyT (os.getD sd 0) (by omega)
    have hgs:splice (tbl os.length t) sd [AV.v os.length (ivs os.length y)]=tbl os.length (oset t sd y):=tbl_set hd1
    have hdI:((sd:Int)<(os.length:Int))=True:=eq_true (by omega)
    have hGn:tbG (pc os pw cj) (oset t sd y):=by
     intro d z hz
     unfold oset at hz
     split at hz
     ·rename_i ee
      subst ee;cases hz
      exact⟨hd1,yT1,yl⟩
     ·exact hG d z hz
    have hG2:=hGn.T hv
    have hW9:List.take (k-1+1) (List.take (k-1) (List.map (vi os.length) W)++[AV.v os.length (ivs os.length su)])=List.map (vi os.length) (W.take (k-1))++[AV.v os.length (ivs os.length su)]:=by
     rw[List.take_of_length_le (by simp;omega),List.map_take]
    refine AW.skip ?_
    simp only[thn,blk]
    refine hN3 _ ?_
    try clear hN3 N3
    refine AW.seq (fun N hN=> ?_)
    refine AW.drawL envOk (by kernel_rfl) 14 (by kernel_rfl) ?_
    simp-dsimp-implicitDefEqProofs (disch:=omega) only[hr_nil,hr_one,hr_if,List.take_succ_cons,List.take_zero,List.drop_succ_cons,List.drop_zero,List.take_nil,List.drop_nil,go_sem,undef,prs,prsP,w64,vi,ints,gd_i]
    refine⟨_,.of (spec_l01Inv_ok (su sd) (os.getD sd 0) hp4 (by omega) (by omega)),?_⟩
    try simp-dsimp-implicitDefEqProofs (disch:=omega) only[go_sem,undef,prs,prsP,w64,vi]
    refine⟨_,.of (hpy),?_⟩
    try simp-dsimp-implicitDefEqProofs (disch:=omega) only[go_sem,undef,prs,prsP,w64,vi]
    refine hN _ ?_
    try clear hN N
    refine AW.sr envOk (fun N hN=> ?_)
    simp-dsimp-implicitDefEqProofs (disch:=omega) only[go_sem,undef,prs,prsP,w64,vi,hgs]
    refine hN _ ?_
    try clear hN N
    refine AW.sr envOk (fun N hN=> ?_)
    simp-dsimp-implicitDefEqProofs (disch:=omega) only[go_sem,undef,prs,prsP,w64,vi]
    refine hN _ ?_
    try clear hN N
    refine AW.seq (fun N hN=> ?_)
    refine AW.drawL envOk (by kernel_rfl) 10 (by kernel_rfl) ?_
    simp-dsimp-implicitDefEqProofs (disch:=omega) only[hr_nil,hr_one,hr_if,List.take_succ_cons,List.take_zero,List.drop_succ_cons,List.drop_zero,List.take_nil,List.drop_nil,go_sem,undef,prs,prsP,w64,vi,ints,gd_i]
    refine⟨_,.of (hpz),?_⟩
    try simp-dsimp-implicitDefEqProofs (disch:=omega) only[go_sem,undef,prs,prsP,w64,vi]
    refine hN _ ?_
    try clear hN N
    refine AW.sr envOk (fun N hN=> ?_)
    simp-dsimp-implicitDefEqProofs (disch:=omega) only[go_sem,undef,prs,prsP,w64,vi]
    refine hN _ ?_
    try clear hN N
    refine AW.block ?_
    refine AW.loopN (α:=Nat×Nat×List V) (fun x=>sl 105 [(2,prsP os pw cj),(5,.i .i64 os.length),(6,.h (nx+2+4+1) 0 os.length),(7,.h x.2.1 0 x.2.2.length),(9,.i .i64 sd),(11,vi os.length y),(12,.i .i64 x.1)]) (fun x=>upd (upd noH (nx+2+4+1) (some (tbl os.length (oset t sd y)))) x.2.1 (some (x.2.2.map (vi os.length)))) (fun x m=>(x.1≤os.length∧nx+2+4+1<x.2.1∧x.2.1<m)∧x.2.2=W.take (k-1)++[su]++[pwV (pc os pw cj) y (os.getD sd 0)]++comL (pc os pw cj) (oset t sd y) sd y x.1) (fun x=>os.length-x.1) ((0,m3+3+14+5+5+10,W.take (k-1)++[su]++[pwV (pc os pw cj) y (os.getD sd 0)])) ?_ ?_ (by intro d cs hd;dsimp only at hd ⊢;rw[hW9];simp only[upd,noH,List.map_append,List.map_cons,List.map_nil,vi]at hd ⊢;grind) ?_
    ·exact⟨⟨by omega,by first|omega|(simp only;omega)|(dsimp only;omega),by first|omega|(simp only;omega)|(dsimp only;omega)⟩,by simp[comL]⟩
    ·simp(disch:=omega) [wks,wkA,sl,prsP,ints,rows,cubes,vi]<;>omega
    ·skip
     rintro⟨e,id3,K⟩ m2 ⟨⟨he,hid5,hid6⟩,hK⟩
     dsimp only at he hid5 hid6 hK ⊢
     simp only[vi,prsP]
     simp-dsimp-implicitDefEqProofs (disch:=omega) only[go_sem,undef]
     have hcl:=comL_len (P:=pc os pw cj) (t:=oset t sd y) (d:=sd) (y:=y) e
     have hKl:K.length≤3000:=by rw[hK];simp only[List.length_append,List.length_cons,List.length_nil,List.length_take];omega
     refine AW.seq (fun N4 hN4=> ?_)
     refine AW.sr envOk (fun N hN=> ?_)
     simp-dsimp-implicitDefEqProofs (disch:=omega) only[go_sem,undef,prs,prsP,w64,vi]
     refine hN _ ?_
     try clear hN N
     refine AW.cond rfl (fun h3=> ?_) (fun h3=> ?_)
     ·try simp only[cn]at h3
      refine AW.skip ?_
      simp only[thn,blk]
      refine hN4 _ ?_
      try clear hN4 N4
      refine AW.seq (fun N5 hN5=> ?_)
      refine AW.block ?_
      refine AW.sr envOk (fun N hN=> ?_)
      simp-dsimp-implicitDefEqProofs (disch:=omega) only[go_sem,undef,prs,prsP,w64,vi]
      refine gopB.mk' (fun h4=> ?_) (fun h4=> ?_)
      ·try simp only[cn]at h4
       try simp-dsimp-implicitDefEqProofs (disch:=omega) only[go_sem,undef,prs,prsP,w64,vi]
       refine hN _ ?_
       try clear hN N
       refine AW.cond rfl (fun h5=> ?_) (fun h5=> ?_)
       ·try simp only[cn]at h5
        obtain⟨z,hz,hzv⟩:=tkl_p (n:=os.length) (o:=oset t sd y e) (by omega)
        have hzT:T (pc os pw cj) 0 z:=hG2 e z hz
        have hs2:comL (pc os pw cj) (oset t sd y) sd y (e+1)=comL (pc os pw cj) (oset t sd y) sd y e++[cmV (pc os pw cj) y z]:=by rw[comL,hz];dsimp only;rw[if_neg (by omega)]
        refine AW.drawL envOk (by kernel_rfl) 9 (by kernel_rfl) ?_
        simp-dsimp-implicitDefEqProofs (disch:=omega) only[hr_nil,hr_one,hr_if,List.take_succ_cons,List.take_zero,List.drop_succ_cons,List.drop_zero,List.take_nil,List.drop_nil,go_sem,undef,prs,prsP,w64,vi]
        rw[hzv]
        refine⟨_,.of (spec_l10Comm_ok os pw cj h hc y z hyT hzT),?_⟩
        try simp-dsimp-implicitDefEqProofs (disch:=omega) only[go_sem,undef,prs,prsP,w64,vi]
        refine hN5 _ ?_
        try clear hN5 N5
        refine AW.regionL envOk ?_
        simp-dsimp-implicitDefEqProofs (disch:=omega) only[go_sem,undef,prs,prsP,w64,vi]
        refine⟨(e+1,m2+3+11+9,K++[cmV (pc os pw cj) y z]),?_,by intro d cs hd;simp only[upd,noH,tk_map,List.map_append,List.map_cons,List.map_nil,vi]at hd ⊢;grind,?_,?_⟩
        ·simp(disch:=omega) [wks,wkA,sl,prsP,ints,rows,cubes,vi]<;>omega
        ·exact⟨⟨by omega,by first|omega|(simp only;omega)|(dsimp only;omega),by first|omega|(simp only;omega)|(dsimp only;omega)⟩,by (try simp only[]);rw[hs2,hK];simp only[List.append_assoc]⟩
        ·first|omega|(simp only;omega)
       ·try simp only[cn]at h5
        have hs2:comL (pc os pw cj) (oset t sd y) sd y (e+1)=comL (pc os pw cj) (oset t sd y) sd y e:=by rw[comL,tkl_z (n:=os.length) (o:=oset t sd y e) (by omega) (by omega)]
        refine AW.skip ?_
        simp only[thn,blk]
        refine hN5 _ ?_
        try clear hN5 N5
        refine AW.regionL envOk ?_
        simp-dsimp-implicitDefEqProofs (disch:=omega) only[go_sem,undef,prs,prsP,w64,vi]
        refine⟨(e+1,id3,K),?_,fun _ _ h=>h,?_,?_⟩
        ·simp(disch:=omega) [wks,wkA,sl,prsP,ints,rows,cubes,vi]<;>omega
        ·exact⟨⟨by omega,by first|omega|(simp only;omega)|(dsimp only;omega),by first|omega|(simp only;omega)|(dsimp only;omega)⟩,by (try simp only[]);rw[hs2,hK]⟩
        ·first|omega|(simp only;omega)
      ·try simp only[cn]at h4
       have hse:e=sd:=by omega
       have hs2:comL (pc os pw cj) (oset t sd y) sd y (e+1)=comL (pc os pw cj) (oset t sd y) sd y e:=by rw[comL];split;rfl;rw[if_pos hse]
       try simp-dsimp-implicitDefEqProofs (disch:=omega) only[go_sem,undef,prs,prsP,w64,vi]
       refine hN _ ?_
       try clear hN N
       refine AW.condF rfl ?_
       refine AW.skip ?_
       simp only[thn,blk]
       refine hN5 _ ?_
       try clear hN5 N5
       refine AW.regionL envOk ?_
       simp-dsimp-implicitDefEqProofs (disch:=omega) only[go_sem,undef,prs,prsP,w64,vi]
       refine⟨(e+1,id3,K),?_,fun _ _ h=>h,?_,?_⟩
       ·simp(disch:=omega) [wks,wkA,sl,prsP,ints,rows,cubes,vi]<;>omega
       ·exact⟨⟨by omega,by first|omega|(simp only;omega)|(dsimp only;omega),by first|omega|(simp only;omega)|(dsimp only;omega)⟩,by (try simp only[]);rw[hs2,hK]⟩
       ·first|omega|(simp only;omega)
     ·try simp only[cn]at h3
      have hen:e=os.length:=by omega
      subst hen
      have hcr:clR (pc os pw cj) t (W.take (k-1)) (sd,su)=(oset t sd y,K):=by rw[clR,if_neg (show ¬sd=(pc os pw cj).n from (by show ¬sd=os.length;omega)),hy,hK];rfl
      obtain⟨hG9,hKT⟩:=clR_G hv hc (fun d hd=>hpr d hd) hG hW' haT
      rw[show strF (pc os pw cj) t (pc os pw cj).n 0 a=(sd,su)from hs,hcr]at hKT
      rw[hcr]at hct hdec
      refine AW.exit ?_
      simp only[thn,blk,if_true]
      refine⟨(oset t sd y,id3,K,K.length,f'),?_,fun _ _ h=>h,?_,?_⟩
      ·simp(disch:=omega) [wks,wkA,sl,prsP,ints,rows,cubes]<;>omega
      ·try dsimp only
       rw[List.take_length]
       exact⟨⟨⟨Nat.le_refl _,by omega⟩,by omega,by first|omega|(simp only;omega)|(dsimp only;omega)⟩,⟨hGn,hKT⟩,by (try (dsimp only at hdec));omega,hct⟩
      ·first|omega|(simp only;omega)
  ·try simp only[cn]at h1
   refine AW.exit ?_
   simp only[thn,blk,if_true]
   refine hN1 _ ?_
   try clear hN1 N1
   have hk0:k=0:=by omega
   subst hk0
   have htR:t=R:=by rw[←hC];cases f with|zero=>rfl|succ f=>rfl
   subst htR
   refine AW.freeze 6 (nx+2+4+1) os.length _ rfl ((upd_ne _ _ (by omega)).trans (upd_same _ _ _)) tbl_len ?_
   simp-dsimp-implicitDefEqProofs (disch:=omega) only[go_sem,undef]
   refine AW.sr envOk (fun N hN=> ?_)
   simp-dsimp-implicitDefEqProofs (disch:=omega) only[go_sem,undef,prs,prsP,w64,vi]
   refine(AC.frS (spec_l12Full_n os pw cj h hc t (hG.T hv) _)).mono2 ?_
   rintro m9 H9 r9 hm9 ⟨id9,rfl,hi9,hj9,rfl⟩
   try simp-dsimp-implicitDefEqProofs (disch:=omega) only[go_sem,undef,prs,prsP,w64,vi]
   refine hN _ ?_
   try clear hN N
   refine AW.ret ?_
   simp-dsimp-implicitDefEqProofs (disch:=omega) only[go_sem,undef]
   exact⟨_,le_noS,id9,rfl,by omega,by omega,rfl⟩
theorem spec_l12Close_ok (h:presOk os pw cj) (hc:Con (pc os pw cj) 0) (us:List V) (hl:us.length≤1000) (hu:∀x∈us,T (pc os pw cj) 0 x):ACp Tryz.prog 55 [prs os pw cj,vls os.length us] (vls os.length (outS (dnS (pc os pw cj) os.length (cloF (pc os pw cj) (clM (pc os pw cj) (fun _=>none) us) (fun _=>none) us) os.length) os.length)):= .ofS fun nx=>spec_l12Close_n os pw cj h hc us hl hu nx
end
end Go.Proofs.YtnlfbimjcabgiaaGreat
