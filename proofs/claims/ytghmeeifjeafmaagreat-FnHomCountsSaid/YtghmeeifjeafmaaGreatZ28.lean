import Derived.Test.YtghmeeifjeafmaaGreatZ27
set_option linter.unusedVariables false
set_option linter.unusedSimpArgs false
namespace Go.Proofs.YtghmeeifjeafmaaGreat
open Nat (reduceAdd reduceSub reduceGT reduceEqDiff reduceMul)
theorem impl_CountFpHoms_1_ok (g:Int) (rs:List (List Int)) (os:List Int) (pw:List (List Int)) (cj:List (List (List Int))) (h:presOk os pw cj) (hc:Con (pc os pw cj) 0) (xs:List (List Int)) (hx:exsP os xs) (hxl:xs.length≤1000) (hr:rowslen rs) (hw:∀k,k<rs.length→wordP xs.length (rs.getD k [])):ACp Tryz.prog 36 [rows xs,.p 0 [.i .i64 g,rows rs],prsP os pw cj] (.b (tf (hldP (pc os pw cj) xs rs))):=by
 refine ACp.intro' envOk Tryz.func36 rfl (by kernel_rfl) Tryz.ntmps36 Tryz.results36 (.b _) (fun nx cX=>?_)
 refine AW.sr envOk (fun N hN=>?_);simp-dsimp-implicitDefEqProofs (disch:=omega)only[go_sem];refine hN _ ?_;try clear hN N
 refine AW.sr envOk (fun N hN=>?_);simp-dsimp-implicitDefEqProofs (disch:=omega)only[go_sem];refine AC.pure (.of (impl_respects_ok rs os pw cj h hc xs hx hxl hr hw)) ?_;try simp-dsimp-implicitDefEqProofs (disch:=omega)only[go_sem]
 refine hN _ ?_;try clear hN N
 refine AW.ret ?_;simp-dsimp-implicitDefEqProofs (disch:=omega)only[go_sem];try rfl
theorem impl_CountFpHoms_ok (g:Int) (rs:List (List Int)) (hr:rowslen rs) (os:List Int) (pw:List (List Int)) (cj:List (List (List Int))) (hl:prlen os pw cj):ACp Tryz.prog 13 [fp g rs,prs os pw cj] (resN (ccvP (fpP g rs∧grpP os pw cj) (stq (prd os os.length) g.toNat) (cntF (fun k=>hldP (pc os pw cj) (tupI os (prd os os.length) g.toNat k) rs) (stq (prd os os.length) g.toNat).toNat)) (cceP (fpP g rs∧grpP os pw cj) (stq (prd os os.length) g.toNat))):=by
 have hrn:=hr.n
 have hlo:=hl.o
 obtain⟨OK,hOK⟩:∃OK:Prop,(fpP g rs∧grpP os pw cj)=OK:=⟨_,rfl⟩
 rw[hOK]
 refine ACp.intro' envOk Tryz.func13 rfl (by kernel_rfl) Tryz.ntmps13 Tryz.results13 (resN_nr _ _) (fun nx cX=>?_)
 refine AW.sr envOk (fun N hN=>?_);simp-dsimp-implicitDefEqProofs (disch:=omega)only[go_sem,prs,fp,rows,resN];refine hN _ ?_;try clear hN N
 refine AW.seq (fun N1 hN1=>?_);refine AW.freezeQ 2 nx _ rfl ((upd_ne _ _ (by omega)).trans (upd_same _ _ _)) ?_
 simp-dsimp-implicitDefEqProofs (disch:=omega)only[go_sem];refine AW.freezeQ 3 (nx+1) _ rfl ((upd_ne _ _ (by omega)).trans (upd_same _ _ _)) ?_
 simp-dsimp-implicitDefEqProofs (disch:=omega)only[go_sem];refine AW.sr envOk (fun N hN=>?_);simp-dsimp-implicitDefEqProofs (disch:=omega)only[go_sem,prs,fp,rows,resN];refine AC.pure (.of (impl_IsFpGroup_ok g rs hr)) ?_;try simp-dsimp-implicitDefEqProofs (disch:=omega)only[go_sem,prs,fp,rows,resN]
 refine gopB.mk' (fun h1=>?_) (fun h1=>?_)
 ·try simp only[cn]at h1
  try simp-dsimp-implicitDefEqProofs (disch:=omega)only[go_sem,prs,fp,rows,resN]
  refine AC.pure (.of (impl_IsConsistent_ok os pw cj hl)) ?_;try simp-dsimp-implicitDefEqProofs (disch:=omega)only[go_sem,prs,fp,rows,resN]
  refine hN _ ?_;try clear hN N
  refine AW.cond rfl (fun h2=>?_) (fun h2=>?_)
  ·try simp only[cn]at h2
   refine AW.sr envOk (fun N hN=>?_);simp-dsimp-implicitDefEqProofs (disch:=omega)only[go_sem,prs,fp,rows,resN];refine hN _ ?_;try clear hN N
   refine AW.ret ?_;simp-dsimp-implicitDefEqProofs (disch:=omega)only[go_sem];exact(res_no (by rw[←hOK];exact fun q=>h2 q.2)).symm
  try simp only[cn]at h2
  refine AW.skip ?_;simp only[thn,blk];refine hN1 _ ?_;try clear hN1 N1
  have hpr:=h2.1.2.1
  have hq1:=prd_pos hpr os.length (Nat.le_refl _)
  have hg4:=h1.1
  have hgc:((g.toNat:Nat):Int)=g:=by omega
  have hct:=impl_countTuples_ok os pw cj h2.1 g.toNat (by omega) 36 [.p 0 [.i .i64 g,rows rs],prsP os pw cj] (fun k=>hldP (pc os pw cj) (tupI os (prd os os.length) g.toNat k) rs) (fun k _=>impl_CountFpHoms_1_ok g rs os pw cj h2.1 h2.2 _ (tupI_ex hpr (by omega) hq1) (by rw[tupI_len];omega) hr (fun j hj=>by rw[tupI_len,hgc];exact h1.2.2 j hj))
  rw[hgc]at hct
  refine AW.sr envOk (fun N hN=>?_);simp-dsimp-implicitDefEqProofs (disch:=omega)only[go_sem,prs,fp,rows,resN];refine AC.pure (.of (hct)) ?_;try simp-dsimp-implicitDefEqProofs (disch:=omega)only[go_sem,prs,fp,rows,resN]
  refine hN _ ?_;try clear hN N
  refine AW.ret ?_;simp-dsimp-implicitDefEqProofs (disch:=omega)only[go_sem];simp only[resN,ccvP,cceP,tf_t trivial,tf_t (show OK by rw[←hOK];exact⟨h1,h2⟩)]
 try simp only[cn]at h1
 try simp-dsimp-implicitDefEqProofs (disch:=omega)only[go_sem,prs,fp,rows,resN]
 refine hN _ ?_;try clear hN N
 refine AW.condT rfl ?_;refine AW.sr envOk (fun N hN=>?_);simp-dsimp-implicitDefEqProofs (disch:=omega)only[go_sem,prs,fp,rows,resN];refine hN _ ?_;try clear hN N
 refine AW.ret ?_;simp-dsimp-implicitDefEqProofs (disch:=omega)only[go_sem];exact(res_no (by rw[←hOK];exact fun q=>h1 q.1)).symm
end Go.Proofs.YtghmeeifjeafmaaGreat
namespace Go.Proofs.YtghmeeifjeafmaaGreat
open Nat (reduceAdd reduceSub reduceGT reduceEqDiff reduceMul)
section
variable (os:List Int) (pw:List (List Int)) (cj:List (List (List Int)))
end
end Go.Proofs.YtghmeeifjeafmaaGreat
namespace Go.Proofs.YtghmeeifjeafmaaGreat
open Nat (reduceAdd reduceSub reduceGT reduceEqDiff reduceMul)
def tkl (n:Nat):Option V→Nat
  |none=>0
  |some _=>n
def tkc (n:Nat):Option V→List AV
  |none=>[]
  |some y=>ivs n y
def tbl (n:Nat) (t:Nat→Option V):List AV:=(List.range n).map fun d=> .v (tkl n (t d)) (tkc n (t d))
theorem tbl_len {n:Nat} {t:Nat→Option V}:(tbl n t).length=n:=by simp[tbl]
theorem tbl_get {n:Nat} {t:Nat→Option V} {d:Nat} (h:d<n):(tbl n t).getD d .j= .v (tkl n (t d)) (tkc n (t d)):=by simp[tbl,h]
attribute [go_sem] tbl_len tbl_get
section
variable (os:List Int) (pw:List (List Int)) (cj:List (List (List Int)))
theorem vls_get {n:Nat} {us:List V} {k:Nat} (h:k<us.length):(us.map (vi n)).getD k .j=vi n (us.getD k z0):=by simp[h]
attribute [go_sem] vls_get
end
end Go.Proofs.YtghmeeifjeafmaaGreat
namespace Go.Proofs.YtghmeeifjeafmaaGreat
open Nat (reduceAdd reduceSub reduceGT reduceEqDiff reduceMul)
section
variable (os:List Int) (pw:List (List Int)) (cj:List (List (List Int)))
end
end Go.Proofs.YtghmeeifjeafmaaGreat
namespace Go.Proofs.YtghmeeifjeafmaaGreat
open Nat (reduceAdd reduceSub reduceGT reduceEqDiff reduceMul)
def sm (f:Nat→Int):Nat→Int
  |0=>0
  |k+1=>sm f k+f k
theorem sm_ext {f g:Nat→Int}:∀n,(∀k,k<n→f k=g k)→sm f n=sm g n:=by
  intro n
  induction n with
  |zero=>intro _;rfl
  |succ n ih=>intro h;rw[sm,sm,ih (fun k hk=>h k (by omega)),h n (by omega)]
theorem sm_app {f:Nat→Int} {m:Nat}:∀b,sm f (m+b)=sm f m+sm (fun y=>f (m+y)) b:=by
  intro b
  induction b with
  |zero=>simp[sm]
  |succ b ih=>rw[Nat.add_succ,sm,ih,sm];omega
theorem sm_mul {f:Nat→Int} {b:Nat}:∀a,sm f (a*b)=sm (fun x=>sm (fun y=>f (x*b+y)) b) a:=by
  intro a
  induction a with
  |zero=>simp[sm]
  |succ a ih=>rw[Nat.succ_mul,sm_app,ih,sm]
theorem sm_zero:∀n,sm (fun _=>0) n=0:=by
  intro n
  induction n with
  |zero=>rfl
  |succ n ih=>rw[sm,ih];rfl
theorem sm_add {f g:Nat→Int}:∀n,sm (fun k=>f k+g k) n=sm f n+sm g n:=by
  intro n
  induction n with
  |zero=>rfl
  |succ n ih=>rw[sm,sm,sm,ih];omega
theorem sm_swap {f:Nat→Nat→Int} {b:Nat}:∀a,sm (fun x=>sm (fun y=>f x y) b) a=sm (fun y=>sm (fun x=>f x y) a) b:=by
  intro a
  induction a with
  |zero=>simp only[sm];exact(sm_zero b).symm
  |succ a ih=>rw[sm,ih,←sm_add];rfl
theorem cnt_sm {p:Nat→Prop}:∀n,cntF p n=sm (fun k=>if tf (p k)=true then 1 else 0) n:=by
  intro n
  induction n with
  |zero=>rfl
  |succ n ih=>rw[cntF,sm,ih];split<;>omega
def dS (n c k:Nat):List Nat:=(List.range c).map fun i=>k/n^(c-1-i)%n
def dI (n c k:Nat):List Nat:=(List.range c).map fun i=>k/n^i%n
theorem dS_cons {n c x y:Nat} (h1:1≤n) (hx:x<n) (hy:y<n^c):dS n (c+1) (x*n^c+y)=x::dS n c y:=by
  unfold dS
  rw[List.range_succ_eq_map,List.map_cons,List.map_map]
  have hp:0<n^c:=Nat.pow_pos (by omega)
  congr 1
  · rw[show c+1-1-0=c by omega,Nat.add_comm,Nat.add_mul_div_right _ _ hp,Nat.div_eq_of_lt hy,Nat.zero_add,Nat.mod_eq_of_lt hx]
  refine List.map_congr_left fun i hi=>?_
  have hi:=List.mem_range.1 hi
  simp only[Function.comp]
  rw[show c+1-1-i.succ=c-1-i by omega]
  obtain⟨j,hj⟩:∃j,c-1-i=j:=⟨_,rfl⟩
  rw[hj]
  have hpj:0<n^j:=Nat.pow_pos (by omega)
  have e:n^c=n^(c-j-1)*n*n^j:=by rw[←Nat.pow_succ,←Nat.pow_add];congr 1;omega
  rw[e,←Nat.mul_assoc,Nat.add_comm,Nat.add_mul_div_right _ _ hpj,←Nat.mul_assoc,Nat.add_mul_mod_self_right]
theorem dI_cons {n c x y:Nat} (h1:1≤n) (hx:x<n):dI n (c+1) (y*n+x)=x::dI n c y:=by
  unfold dI
  rw[List.range_succ_eq_map,List.map_cons,List.map_map]
  congr 1
  · rw[Nat.pow_zero,Nat.div_one,Nat.add_comm,Nat.add_mul_mod_self_right,Nat.mod_eq_of_lt hx]
  refine List.map_congr_left fun i hi=>?_
  simp only[Function.comp]
  rw[show n^i.succ=n*n^i by rw[Nat.pow_succ,Nat.mul_comm],←Nat.div_div_eq_div_mul,Nat.add_comm,Nat.add_mul_div_right _ _ (by omega),Nat.div_eq_of_lt hx,Nat.zero_add]
theorem digits {n:Nat} (h1:1≤n):∀(c:Nat) (g:List Nat→Int),sm (fun k=>g (dS n c k)) (n^c)=sm (fun k=>g (dI n c k)) (n^c):=by
  intro c
  induction c with
  |zero=>intro g;rfl
  | succ c ih=>
    intro g
    have hL:sm (fun k=>g (dS n (c+1) k)) (n^(c+1))=sm (fun x=>sm (fun y=>g (x::dI n c y)) (n^c)) n:=by
      rw[show n^(c+1)=n*n^c by rw[Nat.pow_succ,Nat.mul_comm],sm_mul]
      refine sm_ext n fun x hx=>?_
      rw[←ih fun l=>g (x::l)]
      refine sm_ext _ fun y hy=>?_
      rw[dS_cons h1 hx hy]
    have hR:sm (fun k=>g (dI n (c+1) k)) (n^(c+1))=sm (fun y=>sm (fun x=>g (x::dI n c y)) n) (n^c):=by
      rw[Nat.pow_succ,sm_mul]
      refine sm_ext _ fun y hy=>?_
      refine sm_ext n fun x hx=>?_
      rw[dI_cons h1 hx]
    rw[hL,hR,sm_swap]
theorem dvN_nat {n k:Nat}:∀d,dvN (n:Int) (k:Int) d=((k/n^d:Nat):Int):=by
  intro d
  induction d with
  |zero=>simp[dvN]
  |succ d ih=>rw[dvN,ih,Nat.pow_succ,←Nat.div_div_eq_div_mul];rfl
theorem tupS_dig {os:List Int} {n c k:Nat}:tupS os (n:Int) c (k:Int)=(dS n c k).map fun d:Nat=>atR os (d:Int):=by
  unfold tupS dS
  rw[List.map_map]
  refine List.map_congr_left fun i _=>?_
  rw[dvN_nat];rfl
theorem tupI_dig {os:List Int} {n c k:Nat}:tupI os (n:Int) c (k:Int)=(dI n c k).map fun d:Nat=>atR os (d:Int):=by
  unfold tupI dI
  rw[List.map_map]
  refine List.map_congr_left fun i _=>?_
  rw[dvN_nat];rfl
theorem stq_pow {n c:Nat} (h1:1≤n) (h:stq (n:Int) c≤4096):stq (n:Int) c=((n^c:Nat):Int):=by
  have:∀k,k≤c→stq (n:Int) k=((n^k:Nat):Int):=by
    intro k
    induction k with
    |zero=>intro _;simp[stq]
    | succ k ih=>
      intro hk
      have h2:stq (n:Int) k≤4096:=by
        apply Classical.byContradiction
        intro hn
        have:=stq_over (N:=(n:Int)) (k:=k) (c:=c) (by omega) (by omega)
        omega
      rw[stq,if_pos h2,ih (by omega),Nat.pow_succ];simp
  exact this c (Nat.le_refl _)
theorem count_eq {os:List Int} {N:Int} {c:Nat} (h1:1≤N) (h:stq N c≤4096) (Q:List (List Int)→Prop):cntF (fun k=>Q (tupS os N c k)) (stq N c).toNat=cntF (fun k=>Q (tupI os N c k)) (stq N c).toNat:=by
  obtain⟨n,rfl⟩:=Int.eq_ofNat_of_zero_le (show 0≤N by omega)
  have e:=stq_pow (n:=n) (c:=c) (by omega) h
  rw[e,Int.toNat_natCast,cnt_sm,cnt_sm]
  simp only[tupS_dig,tupI_dig];exact digits (by omega) c fun l=>if tf (Q (l.map fun d:Nat=>atR os (d:Int)))=true then 1 else 0
end Go.Proofs.YtghmeeifjeafmaaGreat
