import Derived.Test.YtghmeeifjeafmaaGreatZ17
set_option linter.unusedVariables false
set_option linter.unusedSimpArgs false
namespace Go.Proofs.YtghmeeifjeafmaaGreat
open Nat (reduceAdd reduceSub reduceGT reduceEqDiff reduceMul)
def fl (a:List Int):V:=fun k=>a.getD k 0
def vi (n:Nat) (f:V):AV:= .v n (ivs n f)
theorem vi_ints {n:Nat} {f:V}:ints (vec n f)=vi n f:=by unfold ints vi;rw[vec_len,vec_map]
theorem ints_vi {n:Nat} {a:List Int} (h:a.length=n):ints a=vi n (fl a):=by
  subst h;rw[←vi_ints];congr 1;exact vec_of a
theorem vi_nr (n:Nat) (f:V):NR (vi n f):=by rw[←vi_ints];exact ints_nr _
theorem vi_ext {n:Nat} {f g:V} (h:∀k,k<n→f k=g k):vi n f=vi n g:=by unfold vi;rw[ivs_ext h]
theorem vi_inj {n:Nat} {f g:V}:vec n f=vec n g↔∀k,k<n→f k=g k:=by
  constructor
  · intro h k hk
    have:=congrArg (fun l=>l.getD k 0) h
    simp only[vec_get hk]at this
    exact this
  exact vec_ext
def pc (os:List Int) (pw:List (List Int)) (cj:List (List (List Int))):Pc:=
  ⟨os.length,fun i=>os.getD i 0,fun i=>fl (pw.getD i []),fun i j=>fl ((cj.getD i []).getD (j-i-1) [])⟩
section
variable {os:List Int} {pw:List (List Int)} {cj:List (List (List Int))}
theorem xpP.T {v:List Int} {i:Nat} (h:xpP os v i):Go.Proofs.YtghmeeifjeafmaaGreat.T (pc os pw cj) (i+1) (fl v):=by
  have hl:=h.1
  refine⟨fun k hk=>?_,fun k h1 h2=>?_,fun k hk=>?_⟩
  · by_cases e:k<v.length
    · exact(h.2 k e).2 (by omega)
    simp only[fl];simp[List.getD_eq_getElem?_getD,List.getElem?_eq_none (Nat.le_of_not_lt e)]
  · have h3:k<os.length:=h2
    have:=(h.2 k (by omega)).1
    refine⟨this.1,?_⟩
    show v.getD k 0<os.getD k 0
    omega
  have h3:os.length≤k:=hk
  simp only[fl];simp[List.getD_eq_getElem?_getD,List.getElem?_eq_none (show v.length≤k by omega)]
theorem exP.T {v:List Int} (h:exP os v):Go.Proofs.YtghmeeifjeafmaaGreat.T (pc os pw cj) 0 (fl v):=by
  have hl:=h.1
  refine⟨fun k hk=>by omega,fun k h1 h2=>?_,fun k hk=>?_⟩
  · have h3:k<os.length:=h2
    have:=h.2 k (by omega)
    refine⟨this.1,?_⟩
    show v.getD k 0<os.getD k 0
    omega
  have h3:os.length≤k:=hk
  simp only[fl];simp[List.getD_eq_getElem?_getD,List.getElem?_eq_none (show v.length≤k by omega)]
theorem presOk.val (h:presOk os pw cj):Val (pc os pw cj):=by
  refine⟨fun i hi=>?_,fun i hi=>(h.2.2.2 i hi).1.T,fun i j hij hj=>?_⟩
  · have:=pr4_bd (h.2.1 i hi)
    show 1<os.getD i 0
    omega
  have h1:=h.2.2.2 i (Nat.lt_trans hij hj)
  have h2:j<os.length:=hj
  exact(h1.2.2 (j-i-1) (by have:=h1.2.1;omega)).T
theorem presOk.o7 (h:presOk os pw cj) {i:Nat} (hi:i<os.length):2≤(pc os pw cj).o i∧(pc os pw cj).o i≤7:=pr4_bd (h.2.1 i hi)
theorem presOk.pwl (h:presOk os pw cj) {i:Nat} (hi:i<os.length):(pw.getD i []).length=os.length:=(h.2.2.2 i hi).1.1
theorem presOk.cjl (h:presOk os pw cj) {i j:Nat} (hij:i<j) (hj:j<os.length):((cj.getD i []).getD (j-i-1) []).length=os.length:=by
  have h1:=h.2.2.2 i (Nat.lt_trans hij hj)
  exact(h1.2.2 (j-i-1) (by have:=h1.2.1;omega)).1
theorem T.small (h:presOk os pw cj) {i:Nat} {x:V} (hx:T (pc os pw cj) i x) (k:Nat):0≤x k∧x k≤6:=by
  by_cases h1:k<i
  · rw[hx.z k h1];omega
  by_cases h2:k<os.length
  · have h3:=hx.r k (by omega) h2
    have h4:=h.o7 h2
    omega
  rw[hx.t k (by have:(pc os pw cj).n=os.length:=rfl;omega)];omega
end
theorem spec_l08Image_ok (os:List Int) (pw:List (List Int)) (cj:List (List (List Int))) (h:presOk os pw cj) (i:Nat) (hi:i<os.length) (hAt:∀a b,T (pc os pw cj) (i+1) a→T (pc os pw cj) (i+1) b→ACp Tryz.prog 134 [prs os pw cj,.i .i64 ((i:Int)+1),vi os.length a,vi os.length b] (vi os.length (M (pc os pw cj) (i+1) a b))) (a:V) (ha:T (pc os pw cj) (i+1) a):ACp Tryz.prog 153 [prs os pw cj,.i .i64 i,vi os.length a] (vi os.length (img (pc os pw cj) (M (pc os pw cj) (i+1)) i a)):=by
 have hv:=h.val
 have hn6:=h.1.1
 have hpl:=h.1.2.1
 have hcl:=h.1.2.2
 refine ACp.intro' envOk Tryz.func153 rfl (by kernel_rfl) Tryz.ntmps153 Tryz.results153 (vi_nr _ _) (fun nx cX=>?_)
 refine AW.sr envOk (fun N hN=>?_);simp-dsimp-implicitDefEqProofs (disch:=omega)only[go_sem,prs,prsP,ints,rows,cubes,gd_i,gd_r,gd_c,vi];refine hN _ ?_;try clear hN N
 refine AW.freezeQ 3 nx _ rfl (upd_same _ _ _) ?_
 simp-dsimp-implicitDefEqProofs (disch:=omega)only[go_sem];refine AW.sr envOk (fun N hN=>?_);simp-dsimp-implicitDefEqProofs (disch:=omega)only[go_sem,prs,prsP,ints,rows,cubes,gd_i,gd_r,gd_c,vi];refine hN _ ?_;try clear hN N
 refine AW.sr envOk (fun N hN=>?_);simp-dsimp-implicitDefEqProofs (disch:=omega)only[go_sem,prs,prsP,ints,rows,cubes,gd_i,gd_r,gd_c,vi];refine hN _ ?_;try clear hN N
 refine AW.seq (fun N1 hN1=>?_);refine AW.freeze 8 (nx+2+4+1) os.length (List.replicate os.length (.i .i64 0)) rfl (upd_same _ _ _) (by simp) ?_
 simp-dsimp-implicitDefEqProofs (disch:=omega)only[go_sem];refine AW.sr envOk (fun N hN=>?_);simp-dsimp-implicitDefEqProofs (disch:=omega)only[go_sem,prs,prsP,ints,rows,cubes,gd_i,gd_r,gd_c,vi];refine hN _ ?_;try clear hN N
 refine AW.block ?_;refine AW.loopN (α:=Nat×V) (fun x=>sl 48 [(1,.i .i64 i),(2,vi os.length a),(3,prsP os pw cj),(7,.i .i64 os.length),(8,vi os.length x.2),(9,.i .i64 x.1)]) (fun _=>noH) (fun x m=>(i+1≤x.1∧x.1≤os.length)∧T (pc os pw cj) (i+1) x.2∧fim (M (pc os pw cj) (i+1)) ((pc os pw cj).cj i) a (os.length-x.1) x.1 x.2=img (pc os pw cj) (M (pc os pw cj) (i+1)) i a) (fun x=>os.length-x.1) ((i+1,z0)) ?_ ?_ (by intro d cs hd;simp only[noH]at hd;cases hd) ?_
 ·exact⟨⟨Nat.le_refl _,hi⟩,T.zero hv _,rfl⟩
 ·simp(disch:=omega) [wks,wkA,sl,prsP,ints,rows,cubes,vi,ivs_zero]<;>first|omega|rfl
 skip
 rintro⟨j,u⟩ m ⟨⟨hj1,hj2⟩,hu,hf⟩
 dsimp only at hj1 hj2 hu hf
 simp only[vi,prsP];simp-dsimp-implicitDefEqProofs (disch:=omega)only[go_sem];refine AW.seq (fun N2 hN2=>?_);refine AW.sr envOk (fun N hN=>?_);simp-dsimp-implicitDefEqProofs (disch:=omega)only[go_sem,prs,prsP,ints,rows,cubes,gd_i,gd_r,gd_c,vi];refine hN _ ?_;try clear hN N
 refine AW.cond rfl (fun h1=>?_) (fun h1=>?_)
 ·try simp only[cn]at h1
  have hjo:j<os.length:=by omega
  have hsm:=T.small h ha j
  refine AW.skip ?_;simp only[thn,blk];refine hN2 _ ?_;try clear hN2 N2
  refine AW.seq (fun N3 hN3=>?_);refine AW.block ?_;refine AW.sr envOk (fun N hN=>?_);simp-dsimp-implicitDefEqProofs (disch:=omega)only[go_sem,prs,prsP,ints,rows,cubes,gd_i,gd_r,gd_c,vi];refine hN _ ?_;try clear hN N
  refine AW.block ?_;refine AW.loopN (α:=Nat×V) (fun x=>sl 48 [(1,.i .i64 i),(2,vi os.length a),(3,prsP os pw cj),(7,.i .i64 os.length),(8,vi os.length x.2),(9,.i .i64 j),(10,.i .i64 x.1)]) (fun _=>noH) (fun x m=>x.1≤(a j).toNat∧T (pc os pw cj) (i+1) x.2∧x.2=itr (fun w=>M (pc os pw cj) (i+1) w ((pc os pw cj).cj i j)) x.1 u) (fun x=>(a j).toNat-x.1) ((0,u)) ?_ ?_ (fun _ _ h=>h) ?_
  ·exact⟨Nat.zero_le _,hu,rfl⟩
  ·simp(disch:=omega) [wks,wkA,sl,prsP,ints,rows,cubes,vi]
  skip
  rintro⟨q,w⟩ m2 ⟨hq,hw,he⟩
  dsimp only at hq hw he
  simp only[vi,prsP];simp-dsimp-implicitDefEqProofs (disch:=omega)only[go_sem];refine AW.seq (fun N4 hN4=>?_);refine AW.sr envOk (fun N hN=>?_);simp-dsimp-implicitDefEqProofs (disch:=omega)only[go_sem,prs,prsP,ints,rows,cubes,gd_i,gd_r,gd_c,vi];refine hN _ ?_;try clear hN N
  refine AW.cond rfl (fun h2=>?_) (fun h2=>?_)
  ·try simp only[cn]at h2
   have ej:((j:Int)-i-1).toNat=j-i-1:=by omega
   have hcl2:=(h.2.2.2 i hi).2.1
   have e1:AV.v ((cj.getD i []).getD (j-i-1) []).length (List.map (AV.i IntKind.i64) ((cj.getD i []).getD (j-i-1) []))=vi os.length ((pc os pw cj).cj i j):=ints_vi (h.cjl (by omega) hjo)
   refine AW.skip ?_;simp only[thn,blk];refine hN4 _ ?_;try clear hN4 N4
   refine AW.seq (fun N5 hN5=>?_);refine AW.block ?_;refine AW.drawL envOk (by kernel_rfl) 17 (by kernel_rfl) ?_
   simp-dsimp-implicitDefEqProofs (disch:=omega)only[hr_nil,hr_one,hr_if,List.take_succ_cons,List.take_zero,List.drop_succ_cons,List.drop_zero,List.take_nil,List.drop_nil,go_sem,undef,prs,prsP,ints,rows,cubes,gd_i,gd_r,gd_c,w64,vi,ej];rw[e1]
   refine⟨_,.of (hAt w _ hw (hv.cj i j (by omega) hjo)),?_⟩
   try simp-dsimp-implicitDefEqProofs (disch:=omega)only[go_sem,prs,prsP,ints,rows,cubes,gd_i,gd_r,gd_c,vi]
   refine hN5 _ ?_;try clear hN5 N5
   refine AW.regionL envOk ?_;simp-dsimp-implicitDefEqProofs (disch:=omega)only[go_sem,prs,prsP,ints,rows,cubes,gd_i,gd_r,gd_c,vi];refine⟨(q+1,M (pc os pw cj) (i+1) w ((pc os pw cj).cj i j)),?_,fun _ _ h=>h,?_,?_⟩
   ·simp(disch:=omega) [wks,wkA,sl,prsP,w64,ints,rows,cubes,vi]<;>omega
   ·exact⟨by omega,M_T hv hw (hv.cj i j (by omega) hjo),by rw[he];rfl⟩
   first|omega|(simp only;omega)
  try simp only[cn]at h2
  refine AW.exit ?_;simp only[thn,blk,if_true];refine hN3 _ ?_;try clear hN3 N3
  refine AW.regionL envOk ?_;simp-dsimp-implicitDefEqProofs (disch:=omega)only[go_sem,prs,prsP,ints,rows,cubes,gd_i,gd_r,gd_c,vi];refine⟨(j+1,w),?_,fun _ _ h=>h,?_,?_⟩
  ·simp(disch:=omega) [wks,wkA,sl,prsP,w64,ints,rows,cubes,vi]<;>omega
  ·refine⟨by omega,hw,?_⟩
   rw[←hf,he,show os.length-j=os.length-(j+1)+1 by omega,fim,show q=(a j).toNat by omega]
  first|omega|(simp only;omega)
 try simp only[cn]at h1
 refine AW.exit ?_;simp only[thn,blk,if_true];refine hN1 _ ?_;try clear hN1 N1
 refine AW.sr envOk (fun N hN=>?_);simp-dsimp-implicitDefEqProofs (disch:=omega)only[go_sem,prs,prsP,ints,rows,cubes,gd_i,gd_r,gd_c,vi];refine hN _ ?_;try clear hN N
 refine AW.ret ?_;simp-dsimp-implicitDefEqProofs (disch:=omega)only[go_sem];obtain rfl:j=os.length:=by omega
 rw[Nat.sub_self]at hf
 rw[←hf];rfl
theorem spec_l01Own_f {n:Nat} (f:V) (hn:n≤1099511627776) (nx:Nat) (H:HP):AC Tryz.prog 104 nx H [vi n f] (fun nx' H' r=>FrI nx nx' H H' r n f):=by
  have:=spec_l01Own_ok (vec n f) (by rw[vec_len];exact hn) nx H
  rw[vi_ints,vec_len]at this
  refine this.mono ?_
  rintro nx' H' r ⟨id,h1,h2,h3,h4⟩
  exact⟨id,h1,h2,h3,by rw[h4,ivs_ext (fun k hk=>vec_get hk)]⟩
theorem Vw.vi {H:HP} {id n:Nat} {f:V} (h:H id=some (Go.Proofs.YtghmeeifjeafmaaGreat.ivs n f)):Vw H (.h id 0 n) (Go.Proofs.YtghmeeifjeafmaaGreat.vi n f):=Vw.blk h ivs_len.symm
theorem spec_l08At_step (os:List Int) (pw:List (List Int)) (cj:List (List (List Int))) (h:presOk os pw cj) (i:Nat) (hi:i<os.length) (hAt:∀a b,T (pc os pw cj) (i+1) a→T (pc os pw cj) (i+1) b→ACp Tryz.prog 134 [prs os pw cj,.i .i64 ((i:Int)+1),vi os.length a,vi os.length b] (vi os.length (M (pc os pw cj) (i+1) a b))) (a b:V) (ha:T (pc os pw cj) i a) (hb:T (pc os pw cj) i b):ACp Tryz.prog 134 [prs os pw cj,.i .i64 i,vi os.length a,vi os.length b] (vi os.length (M (pc os pw cj) i a b)):=by
 have hv:=h.val
 have hn6:=h.1.1
 have hpl:=h.1.2.1
 have hcl:=h.1.2.2
 have hsa:=T.small h ha i
 have hsb:=T.small h hb i
 have hoi:=h.o7 hi
 have hoi':(pc os pw cj).o i=os.getD i 0:=rfl
 refine ACp.introV envOk Tryz.func134 rfl (by kernel_rfl) Tryz.ntmps134 Tryz.results134 ((vi_nr _ _)) (fun nx cX=>?_)
 refine AW.sr envOk (fun N hN=>?_);simp-dsimp-implicitDefEqProofs (disch:=omega)only[go_sem,prs,prsP,ints,rows,cubes,gd_i,gd_r,gd_c,vi];refine hN _ ?_;try clear hN N
 refine AW.freezeQ 4 nx _ rfl (upd_same _ _ _) ?_
 simp-dsimp-implicitDefEqProofs (disch:=omega)only[go_sem];refine AW.sr envOk (fun N hN=>?_);simp-dsimp-implicitDefEqProofs (disch:=omega)only[go_sem,prs,prsP,ints,rows,cubes,gd_i,gd_r,gd_c,vi];refine hN _ ?_;try clear hN N
 refine AW.seq (fun N1 hN1=>?_);refine AW.sr envOk (fun N hN=>?_);simp-dsimp-implicitDefEqProofs (disch:=omega)only[go_sem,prs,prsP,ints,rows,cubes,gd_i,gd_r,gd_c,vi];refine hN _ ?_;try clear hN N
 refine AW.cond rfl (fun h1=>?_) (fun h1=>?_)
 ·try simp only[cn]at h1
  exfalso;omega
 try simp only[cn]at h1
 refine AW.skip ?_;simp only[thn,blk];refine hN1 _ ?_;try clear hN1 N1
 refine AW.sr envOk (fun N hN=>?_);simp-dsimp-implicitDefEqProofs (disch:=omega)only[go_sem,prs,prsP,ints,rows,cubes,gd_i,gd_r,gd_c,vi];refine(spec_l01Own_f a (by omega) _ _).mono ?_
 rintro nx1 H1 r1 ⟨id1,rfl,g1,g2,rfl⟩
 try simp-dsimp-implicitDefEqProofs (disch:=omega)only[go_sem,prs,prsP,ints,rows,cubes,gd_i,gd_r,gd_c,vi]
 refine(spec_l01Own_f b (by omega) _ _).mono ?_
 rintro nx2 H2 r2 ⟨id2,rfl,g3,g4,rfl⟩
 try simp-dsimp-implicitDefEqProofs (disch:=omega)only[go_sem,prs,prsP,ints,rows,cubes,gd_i,gd_r,gd_c,vi]
 refine hN _ ?_;try clear hN N
 refine AW.sr envOk (fun N hN=>?_);simp-dsimp-implicitDefEqProofs (disch:=omega)only[go_sem,prs,prsP,ints,rows,cubes,gd_i,gd_r,gd_c,vi];refine hN _ ?_;try clear hN N
 refine AW.sr envOk (fun N hN=>?_);simp-dsimp-implicitDefEqProofs (disch:=omega)only[go_sem,prs,prsP,ints,rows,cubes,gd_i,gd_r,gd_c,vi];refine hN _ ?_;try clear hN N
 refine AW.seq (fun N2 hN2=>?_);refine AW.freeze 10 id1 os.length (ivs os.length (fset a i 0)) rfl (by simp(disch:=omega)only[upd_same,upd_ne]) ivs_len ?_
 simp-dsimp-implicitDefEqProofs (disch:=omega)only[go_sem];refine AW.freeze 11 id2 os.length (ivs os.length (fset b i 0)) rfl (by simp(disch:=omega)only[upd_same,upd_ne]) ivs_len ?_
 simp-dsimp-implicitDefEqProofs (disch:=omega)only[go_sem];refine AW.sr envOk (fun N hN=>?_);simp-dsimp-implicitDefEqProofs (disch:=omega)only[go_sem,prs,prsP,ints,rows,cubes,gd_i,gd_r,gd_c,vi];refine hN _ ?_;try clear hN N
 refine AW.block ?_;refine AW.loopN (α:=Nat×V) (fun x=>sl 92 [(1,.i .i64 i),(2,vi os.length a),(3,vi os.length b),(4,prsP os pw cj),(10,vi os.length x.2),(11,vi os.length (fset b i 0)),(12,.i .i64 x.1)]) (fun _=>noH) (fun x m=>x.1≤(b i).toNat∧T (pc os pw cj) (i+1) x.2∧x.2=itr (img (pc os pw cj) (M (pc os pw cj) (i+1)) i) x.1 (fset a i 0)) (fun x=>(b i).toNat-x.1) ((0,fset a i 0)) ?_ ?_ (by intro d cs hd;simp only[noH]at hd;cases hd) ?_
 ·exact⟨Nat.zero_le _,ha.cut,rfl⟩
 ·simp(disch:=omega) [wks,wkA,sl,prsP,ints,rows,cubes,vi]
 skip
 rintro⟨q,w⟩ m ⟨hq,hw,he⟩
 dsimp only at hq hw he
 simp only[vi,prsP];simp-dsimp-implicitDefEqProofs (disch:=omega)only[go_sem];refine AW.seq (fun N3 hN3=>?_);refine AW.sr envOk (fun N hN=>?_);simp-dsimp-implicitDefEqProofs (disch:=omega)only[go_sem,prs,prsP,ints,rows,cubes,gd_i,gd_r,gd_c,vi];refine hN _ ?_;try clear hN N
 refine AW.cond rfl (fun h2=>?_) (fun h2=>?_)
 ·try simp only[cn]at h2
  refine AW.skip ?_;simp only[thn,blk];refine hN3 _ ?_;try clear hN3 N3
  refine AW.seq (fun N4 hN4=>?_);refine AW.block ?_;refine AW.regionL envOk ?_;simp-dsimp-implicitDefEqProofs (disch:=omega)only[go_sem,prs,prsP,ints,rows,cubes,gd_i,gd_r,gd_c,vi];refine AC.pure (.of (spec_l08Image_ok os pw cj h i hi hAt w hw)) ?_;try simp-dsimp-implicitDefEqProofs (disch:=omega)only[go_sem,prs,prsP,ints,rows,cubes,gd_i,gd_r,gd_c,vi]
  refine hN4 _ ?_;try clear hN4 N4
  refine AW.regionL envOk ?_;simp-dsimp-implicitDefEqProofs (disch:=omega)only[go_sem,prs,prsP,ints,rows,cubes,gd_i,gd_r,gd_c,vi];refine⟨(q+1,img (pc os pw cj) (M (pc os pw cj) (i+1)) i w),?_,fun _ _ h=>h,?_,?_⟩
  ·simp(disch:=omega) [wks,wkA,sl,prsP,w64,ints,rows,cubes,vi]<;>omega
  ·exact⟨by omega,img_T hv (fun _ _=>M_T hv) _,by rw[he];rfl⟩
  first|omega|(simp only;omega)
 try simp only[cn]at h2
 obtain rfl:q=(b i).toNat:=by omega
 refine AW.exit ?_;simp only[thn,blk,if_true];refine hN2 _ ?_;try clear hN2 N2
 refine AW.sr envOk (fun N hN=>?_);simp-dsimp-implicitDefEqProofs (disch:=omega)only[go_sem,prs,prsP,ints,rows,cubes,gd_i,gd_r,gd_c,vi];refine AC.pure (.of (hAt w (fset b i 0) hw hb.cut)) ?_;try simp-dsimp-implicitDefEqProofs (disch:=omega)only[go_sem,prs,prsP,ints,rows,cubes,gd_i,gd_r,gd_c,vi]
 refine hN _ ?_;try clear hN N
 refine AW.seq (fun N hN=>?_);refine AW.drawL envOk (by kernel_rfl) 10 (by kernel_rfl) ?_
 simp-dsimp-implicitDefEqProofs (disch:=omega)only[hr_nil,hr_one,hr_if,List.take_succ_cons,List.take_zero,List.drop_succ_cons,List.drop_zero,List.take_nil,List.drop_nil,go_sem,undef,prs,prsP,ints,rows,cubes,gd_i,gd_r,gd_c,w64,vi];refine hN _ ?_;try clear hN N
 refine AW.seq (fun N5 hN5=>?_);refine AW.sr envOk (fun N hN=>?_);simp-dsimp-implicitDefEqProofs (disch:=omega)only[go_sem,prs,prsP,ints,rows,cubes,gd_i,gd_r,gd_c,vi];refine hN _ ?_;try clear hN N
 refine AW.cond rfl (fun h3=>?_) (fun h3=>?_)
 ·try simp only[cn]at h3
  have e2:AV.v (pw.getD i []).length (List.map (AV.i IntKind.i64) (pw.getD i []))=vi os.length ((pc os pw cj).pw i):=ints_vi (h.pwl hi)
  refine AW.sr envOk (fun N hN=>?_);simp-dsimp-implicitDefEqProofs (disch:=omega)only[go_sem,prs,prsP,ints,rows,cubes,gd_i,gd_r,gd_c,vi];refine hN _ ?_;try clear hN N
  refine AW.drawL envOk (by kernel_rfl) 11 (by kernel_rfl) ?_
  simp-dsimp-implicitDefEqProofs (disch:=omega)only[hr_nil,hr_one,hr_if,List.take_succ_cons,List.take_zero,List.drop_succ_cons,List.drop_zero,List.take_nil,List.drop_nil,go_sem,undef,prs,prsP,ints,rows,cubes,gd_i,gd_r,gd_c,w64,vi];rw[e2]
  refine⟨_,.of (hAt _ _ (hv.pw i hi) (M_T hv hw hb.cut)),?_⟩
  try simp-dsimp-implicitDefEqProofs (disch:=omega)only[go_sem,prs,prsP,ints,rows,cubes,gd_i,gd_r,gd_c,vi]
  refine hN5 _ ?_;try clear hN5 N5
  refine AW.sr envOk (fun N hN=>?_);simp-dsimp-implicitDefEqProofs (disch:=omega)only[go_sem,prs,prsP,ints,rows,cubes,gd_i,gd_r,gd_c,vi];refine(spec_l01Own_f _ (by omega) _ _).mono ?_
  rintro nx3 H3 r3 ⟨id3,rfl,g5,g6,rfl⟩
  try simp-dsimp-implicitDefEqProofs (disch:=omega)only[go_sem,prs,prsP,ints,rows,cubes,gd_i,gd_r,gd_c,vi]
  refine hN _ ?_;try clear hN N
  refine AW.sr envOk (fun N hN=>?_);simp-dsimp-implicitDefEqProofs (disch:=omega)only[go_sem,prs,prsP,ints,rows,cubes,gd_i,gd_r,gd_c,vi];refine hN _ ?_;try clear hN N
  refine AW.sr envOk (fun N hN=>?_);simp-dsimp-implicitDefEqProofs (disch:=omega)only[go_sem,prs,prsP,ints,rows,cubes,gd_i,gd_r,gd_c,vi];refine hN _ ?_;try clear hN N
  refine AW.ret ?_;simp-dsimp-implicitDefEqProofs (disch:=omega)only[go_sem];refine Vw.vi ?_
  rw[upd_same,M_lt (show i<(pc os pw cj).n from hi)]
  unfold stp
  rw[if_pos (show(pc os pw cj).o i≤a i+b i from h3),←he]
  rfl
 try simp only[cn]at h3
 refine AW.skip ?_;simp only[thn,blk];refine hN5 _ ?_;try clear hN5 N5
 refine AW.sr envOk (fun N hN=>?_);simp-dsimp-implicitDefEqProofs (disch:=omega)only[go_sem,prs,prsP,ints,rows,cubes,gd_i,gd_r,gd_c,vi];refine(spec_l01Own_f _ (by omega) _ _).mono ?_
 rintro nx3 H3 r3 ⟨id3,rfl,g5,g6,rfl⟩
 try simp-dsimp-implicitDefEqProofs (disch:=omega)only[go_sem,prs,prsP,ints,rows,cubes,gd_i,gd_r,gd_c,vi]
 refine hN _ ?_;try clear hN N
 refine AW.sr envOk (fun N hN=>?_);simp-dsimp-implicitDefEqProofs (disch:=omega)only[go_sem,prs,prsP,ints,rows,cubes,gd_i,gd_r,gd_c,vi];refine hN _ ?_;try clear hN N
 refine AW.sr envOk (fun N hN=>?_);simp-dsimp-implicitDefEqProofs (disch:=omega)only[go_sem,prs,prsP,ints,rows,cubes,gd_i,gd_r,gd_c,vi];refine hN _ ?_;try clear hN N
 refine AW.ret ?_;simp-dsimp-implicitDefEqProofs (disch:=omega)only[go_sem];refine Vw.vi ?_
 rw[upd_same,M_lt (show i<(pc os pw cj).n from hi)]
 unfold stp
 rw[if_neg (show ¬(pc os pw cj).o i≤a i+b i by omega),←he]
theorem spec_l08At_end (os:List Int) (pw:List (List Int)) (cj:List (List (List Int))) (h:presOk os pw cj) (a b:V):ACp Tryz.prog 134 [prs os pw cj,.i .i64 os.length,vi os.length a,vi os.length b] (vi os.length (M (pc os pw cj) os.length a b)):=by
 have hn6:=h.1.1
 refine ACp.introV envOk Tryz.func134 rfl (by kernel_rfl) Tryz.ntmps134 Tryz.results134 ((vi_nr _ _)) (fun nx cX=>?_)
 refine AW.sr envOk (fun N hN=>?_);simp-dsimp-implicitDefEqProofs (disch:=omega)only[go_sem,prs,prsP,ints,rows,cubes,vi];refine hN _ ?_;try clear hN N
 refine AW.freezeQ 4 nx _ rfl (upd_same _ _ _) ?_
 simp-dsimp-implicitDefEqProofs (disch:=omega)only[go_sem];refine AW.sr envOk (fun N hN=>?_);simp-dsimp-implicitDefEqProofs (disch:=omega)only[go_sem,prs,prsP,ints,rows,cubes,vi];refine hN _ ?_;try clear hN N
 refine AW.seq (fun N1 hN1=>?_);refine AW.sr envOk (fun N hN=>?_);simp-dsimp-implicitDefEqProofs (disch:=omega)only[go_sem,prs,prsP,ints,rows,cubes,vi];refine hN _ ?_;try clear hN N
 refine AW.cond rfl (fun h1=>?_) (fun h1=>?_)
 ·try simp only[cn]at h1
  refine AW.sr envOk (fun N hN=>?_);simp-dsimp-implicitDefEqProofs (disch:=omega)only[go_sem,prs,prsP,ints,rows,cubes,vi];refine hN _ ?_;try clear hN N
  refine AW.ret ?_;simp-dsimp-implicitDefEqProofs (disch:=omega)only[go_sem];refine Vw.vi ?_
  rw[upd_same,show M (pc os pw cj) os.length a b=z0 from M_ge (P:=pc os pw cj) (Nat.le_refl _) a b,ivs_zero];rfl
 try simp only[cn]at h1
 simp at h1
theorem spec_l08At_ok (os:List Int) (pw:List (List Int)) (cj:List (List (List Int))) (h:presOk os pw cj):∀(i:Nat),i≤os.length→∀a b,T (pc os pw cj) i a→T (pc os pw cj) i b→
    ACp Tryz.prog 134 [prs os pw cj,.i .i64 i,vi os.length a,vi os.length b] (vi os.length (M (pc os pw cj) i a b)):=by
  have key:∀d i,i+d=os.length→∀a b,T (pc os pw cj) i a→T (pc os pw cj) i b→
      ACp Tryz.prog 134 [prs os pw cj,.i .i64 i,vi os.length a,vi os.length b] (vi os.length (M (pc os pw cj) i a b)):=by
    intro d
    induction d with
    |zero=>intro i hi a b _ _;obtain rfl:i=os.length:=hi;exact spec_l08At_end os pw cj h a b
    | succ d ih=>
      intro i hi a b ha hb
      refine spec_l08At_step os pw cj h i (by omega) (fun a b ha hb=>?_) a b ha hb
      have:=ih (i+1) (by omega) a b ha hb
      rwa [Int.natCast_add]at this
  exact fun i hi=>key (os.length-i) i (by omega)
theorem spec_l08At_ok1 (os:List Int) (pw:List (List Int)) (cj:List (List (List Int))) (h:presOk os pw cj) (i:Nat) (hi:i<os.length) (a b:V) (ha:T (pc os pw cj) (i+1) a) (hb:T (pc os pw cj) (i+1) b):
    ACp Tryz.prog 134 [prs os pw cj,.i .i64 ((i:Int)+1),vi os.length a,vi os.length b] (vi os.length (M (pc os pw cj) (i+1) a b)):=by
  have:=spec_l08At_ok os pw cj h (i+1) hi a b ha hb
  rwa [Int.natCast_add]at this
theorem spec_l08Image_ok' (os:List Int) (pw:List (List Int)) (cj:List (List (List Int))) (h:presOk os pw cj) (i:Nat) (hi:i<os.length) (a:V) (ha:T (pc os pw cj) (i+1) a):ACp Tryz.prog 153 [prs os pw cj,.i .i64 i,vi os.length a] (vi os.length (img (pc os pw cj) (M (pc os pw cj) (i+1)) i a)):=
  spec_l08Image_ok os pw cj h i hi (spec_l08At_ok1 os pw cj h i hi) a ha
theorem rep_sq {N:V→Prop} {m:V→V→V} (g:Grp N m) {x:V} (hx:N x) (k:Nat):rep m (m x x) k=rep m x (2*k):=by
  induction k with
  |zero=>rfl
  | succ k ih=>
    show m (rep m (m x x) k) (m x x)=_
    rw[ih,Nat.mul_add,g.rep_add hx]
    show _=m (rep m x (2*k)) (m (m z0 x) x)
    rw[g.l1 hx]
theorem spec_l08Repeat_ok (os:List Int) (pw:List (List Int)) (cj:List (List (List Int))) (h:presOk os pw cj) (i:Nat) (hi:i≤os.length) (hg:Grp (T (pc os pw cj) i) (M (pc os pw cj) i)) (a:V) (ha:T (pc os pw cj) i a) (k:Nat) (hk:k≤1099511627776):ACp Tryz.prog 132 [prs os pw cj,.i .i64 i,vi os.length a,.i .i64 k] (vi os.length (rep (M (pc os pw cj) i) a k)):=by
 have hv:=h.val
 have hn6:=h.1.1
 refine ACp.intro' envOk Tryz.func132 rfl (by kernel_rfl) Tryz.ntmps132 Tryz.results132 (vi_nr _ _) (fun nx cX=>?_)
 refine AW.sr envOk (fun N hN=>?_);simp-dsimp-implicitDefEqProofs (disch:=omega)only[go_sem,prs,prsP,ints,rows,cubes,vi];refine hN _ ?_;try clear hN N
 refine AW.freezeQ 4 nx _ rfl (upd_same _ _ _) ?_
 simp-dsimp-implicitDefEqProofs (disch:=omega)only[go_sem];refine AW.sr envOk (fun N hN=>?_);simp-dsimp-implicitDefEqProofs (disch:=omega)only[go_sem,prs,prsP,ints,rows,cubes,vi];refine hN _ ?_;try clear hN N
 refine AW.freeze 9 (nx+2+3) os.length (List.replicate os.length (.i .i64 0)) rfl (upd_same _ _ _) (by simp) ?_
 simp-dsimp-implicitDefEqProofs (disch:=omega)only[go_sem];refine AW.sr envOk (fun N hN=>?_);simp-dsimp-implicitDefEqProofs (disch:=omega)only[go_sem,prs,prsP,ints,rows,cubes,vi];refine hN _ ?_;try clear hN N
 refine AW.seq (fun N1 hN1=>?_);refine AW.block ?_;refine AW.loopN (α:=Nat×V×V) (fun x=>sl 34 [(1,.i .i64 i),(3,.i .i64 x.1),(4,prsP os pw cj),(9,vi os.length x.2.1),(10,vi os.length x.2.2)]) (fun _=>noH) (fun x m=>x.1≤1099511627776∧T (pc os pw cj) i x.2.1∧T (pc os pw cj) i x.2.2∧M (pc os pw cj) i x.2.1 (rep (M (pc os pw cj) i) x.2.2 x.1)=rep (M (pc os pw cj) i) a k) (fun x=>x.1) ((k,z0,a)) ?_ ?_ (by intro d cs hd;simp only[noH]at hd;cases hd) ?_
 ·exact⟨hk,T.zero hv _,ha,hg.l1 (hg.rep ha k)⟩
 ·simp(disch:=omega) [wks,wkA,sl,prsP,ints,rows,cubes,vi,ivs_zero]<;>first|omega|rfl
 skip
 rintro⟨q,u,w⟩ m ⟨hq,hu,hw,he⟩
 dsimp only at hq hu hw he
 simp only[vi,prsP];simp-dsimp-implicitDefEqProofs (disch:=omega)only[go_sem];refine AW.seq (fun N2 hN2=>?_);refine AW.sr envOk (fun N hN=>?_);simp-dsimp-implicitDefEqProofs (disch:=omega)only[go_sem,prs,prsP,ints,rows,cubes,vi];refine hN _ ?_;try clear hN N
 refine AW.cond rfl (fun h1=>?_) (fun h1=>?_)
 ·try simp only[cn]at h1
  refine AW.skip ?_;simp only[thn,blk];refine hN2 _ ?_;try clear hN2 N2
  refine AW.block ?_;refine AW.seq (fun N3 hN3=>?_);refine AW.sr envOk (fun N hN=>?_);simp-dsimp-implicitDefEqProofs (disch:=omega)only[go_sem,prs,prsP,ints,rows,cubes,vi];refine hN _ ?_;try clear hN N
  refine AW.cond rfl (fun h2=>?_) (fun h2=>?_)
  ·try simp only[cn]at h2
   refine AW.regionL envOk ?_;simp-dsimp-implicitDefEqProofs (disch:=omega)only[go_sem,prs,prsP,ints,rows,cubes,vi];refine AC.pure (.of (spec_l08At_ok os pw cj h i hi u w hu hw)) ?_;try simp-dsimp-implicitDefEqProofs (disch:=omega)only[go_sem,prs,prsP,ints,rows,cubes,vi]
   refine hN3 _ ?_;try clear hN3 N3
   refine AW.sr envOk (fun N hN=>?_);simp-dsimp-implicitDefEqProofs (disch:=omega)only[go_sem,prs,prsP,ints,rows,cubes,vi];refine AC.pure (.of (spec_l08At_ok os pw cj h i hi w w hw hw)) ?_;try simp-dsimp-implicitDefEqProofs (disch:=omega)only[go_sem,prs,prsP,ints,rows,cubes,vi]
   refine hN _ ?_;try clear hN N
   refine AW.regionL envOk ?_;simp-dsimp-implicitDefEqProofs (disch:=omega)only[go_sem,prs,prsP,ints,rows,cubes,vi];refine⟨(q/2,M (pc os pw cj) i u w,M (pc os pw cj) i w w),?_,fun _ _ h=>h,?_,?_⟩
   ·simp(disch:=omega) [wks,wkA,sl,prsP,w64,ints,rows,cubes,vi]<;>omega
   ·rw[Int.tmod_eq_emod_of_nonneg (by omega)]at h2
    refine⟨by first|omega|(simp only;omega)|(dsimp only;omega),hg.cl hu hw,hg.cl hw hw,?_⟩
    show M (pc os pw cj) i (M (pc os pw cj) i u w) (rep (M (pc os pw cj) i) (M (pc os pw cj) i w w) (q/2))=_
    rw[rep_sq hg hw,hg.ac hu hw (hg.rep hw _),←hg.rep_succ' hw,show 2*(q/2)+1=q by omega,he]
   first|omega|(simp only;omega)
  try simp only[cn]at h2
  refine AW.skip ?_;simp only[thn,blk];refine hN3 _ ?_;try clear hN3 N3
  refine AW.sr envOk (fun N hN=>?_);simp-dsimp-implicitDefEqProofs (disch:=omega)only[go_sem,prs,prsP,ints,rows,cubes,vi];refine AC.pure (.of (spec_l08At_ok os pw cj h i hi w w hw hw)) ?_;try simp-dsimp-implicitDefEqProofs (disch:=omega)only[go_sem,prs,prsP,ints,rows,cubes,vi]
  refine hN _ ?_;try clear hN N
  refine AW.regionL envOk ?_;simp-dsimp-implicitDefEqProofs (disch:=omega)only[go_sem,prs,prsP,ints,rows,cubes,vi];refine⟨(q/2,u,M (pc os pw cj) i w w),?_,fun _ _ h=>h,?_,?_⟩
  ·simp(disch:=omega) [wks,wkA,sl,prsP,w64,ints,rows,cubes,vi]<;>omega
  ·rw[Int.tmod_eq_emod_of_nonneg (by omega)]at h2
   refine⟨by first|omega|(simp only;omega)|(dsimp only;omega),hu,hg.cl hw hw,?_⟩
   show M (pc os pw cj) i u (rep (M (pc os pw cj) i) (M (pc os pw cj) i w w) (q/2))=_
   rw[rep_sq hg hw,show 2*(q/2)=q by omega,he]
  first|omega|(simp only;omega)
 try simp only[cn]at h1
 refine AW.exit ?_;simp only[thn,blk,if_true];refine hN1 _ ?_;try clear hN1 N1
 refine AW.sr envOk (fun N hN=>?_);simp-dsimp-implicitDefEqProofs (disch:=omega)only[go_sem,prs,prsP,ints,rows,cubes,vi];refine hN _ ?_;try clear hN N
 refine AW.ret ?_;simp-dsimp-implicitDefEqProofs (disch:=omega)only[go_sem];obtain rfl:q=0:=by omega
 rw[←he,show rep (M (pc os pw cj) i) w 0=z0 from rfl,hg.r1 hu];rfl
end Go.Proofs.YtghmeeifjeafmaaGreat
