import Derived.Test.YtghmeeifjeafmaaGreatZ32
import Derived.Test.YtghmeeifjeafmaaGreatZ36
set_option linter.unusedVariables false
set_option linter.unusedSimpArgs false
namespace Go.Proofs.YtghmeeifjeafmaaGreat
open Nat (reduceAdd reduceSub reduceGT reduceEqDiff reduceMul)
def vecF (w:List Int):Nat→Nat→Int
  |0=>fun _=>0
  |k+1=>fset (vecF w k) (w.getD k 0-1).toNat (vecF w k (w.getD k 0-1).toNat+1)
def vecC (n:Nat) (w:List Int):List Int:=vec n (vecF w w.length)
theorem vecF_bd (w:List Int):∀k j,0≤vecF w k j∧vecF w k j≤k:=by
  intro k
  induction k with
  |zero=>intro j;simp[vecF]
  | succ k ih=>
    intro j
    have h1:=ih j
    have h2:=ih (w.getD k 0-1).toNat
    simp only[vecF,fset];split<;>omega
theorem vecC_len (n:Nat) (w:List Int):(vecC n w).length=n:=by simp[vecC,vec]
set_option maxHeartbeats 2000000 in theorem spec_l07Vector_n (n:Nat) (w:List Int) (hn:n≤1000) (hw:w.length≤1048576) (hl:∀k,k<w.length→1≤w.getD k 0∧w.getD k 0≤n):∀nx,AC Tryz.prog 166 nx noH [.i .i64 n,ints w] (fun nx' H' r=>∃id,r= .t [.h id 0 n,.b true]∧(nx≤id∧id<nx')∧H' id=some ((vecC n w).map (.i .i64))):=by
 intro nx
 refine AC.intro' envOk Tryz.func166 rfl (by kernel_rfl) Tryz.ntmps166 Tryz.results166 (fun cX=>?_)
 refine AW.sr envOk (fun N hN=>?_);simp-dsimp-implicitDefEqProofs (disch:=omega)only[go_sem,ints,gd_i];refine hN _ ?_;try clear hN N
 refine AW.sr envOk (fun N hN=>?_);simp-dsimp-implicitDefEqProofs (disch:=omega)only[go_sem,ints,gd_i];refine hN _ ?_;try clear hN N
 refine AW.seq (fun N1 hN1=>?_);refine AW.sr envOk (fun N hN=>?_);simp-dsimp-implicitDefEqProofs (disch:=omega)only[go_sem,ints,gd_i];refine hN _ ?_;try clear hN N
 refine AW.block ?_;refine AW.loopN (α:=Nat) (fun x=>sl 38 [(1,ints w),(6,.h (nx+3) 0 n),(7,.i .i64 x)]) (fun x=>upd noH (nx+3) (some (ivs n (vecF w x)))) (fun x m=>x≤w.length∧nx+4≤m) (fun x=>w.length-x) (0) ?_ ?_ (by intro d cs h;simp only[upd,ivs_zero,vecF]at h ⊢;exact h) ?_
 ·exact⟨by omega,by first|omega|(simp only;omega)|(dsimp only;omega)⟩
 ·simp(disch:=omega) [wks,wkA,sl,w64,ints,rows,cubes,ints,gd_i,w64]<;>omega
 skip
 rintro k m ⟨hk,hm⟩
 simp-dsimp-implicitDefEqProofs (disch:=omega)only[go_sem];have hlk:=hl k
 refine AW.seq (fun N2 hN2=>?_);refine AW.sr envOk (fun N hN=>?_);simp-dsimp-implicitDefEqProofs (disch:=omega)only[go_sem,ints,gd_i];refine hN _ ?_;try clear hN N
 refine AW.cond rfl (fun h1=>?_) (fun h1=>?_)
 ·try simp only[cn]at h1
  have hlk2:=hlk (by omega)
  refine AW.skip ?_;simp only[thn,blk];refine hN2 _ ?_;try clear hN2 N2
  refine AW.seq (fun N3 hN3=>?_);refine AW.block ?_;refine AW.seq (fun N4 hN4=>?_);refine AW.sr envOk (fun N hN=>?_);simp-dsimp-implicitDefEqProofs (disch:=omega)only[go_sem,ints,gd_i];refine hN _ ?_;try clear hN N
  refine AW.cond rfl (fun h2=>?_) (fun h2=>?_)
  ·try simp only[cn]at h2
   omega
  try simp only[cn]at h2
  have hvb:=vecF_bd w k (w.getD k 0-1).toNat
  refine AW.skip ?_;simp only[thn,blk];refine hN4 _ ?_;try clear hN4 N4
  refine AW.drawL envOk (by kernel_rfl) 16 (by kernel_rfl) ?_
  simp-dsimp-implicitDefEqProofs (disch:=omega)only[hr_nil,hr_one,hr_if,List.take_succ_cons,List.take_zero,List.drop_succ_cons,List.drop_zero,List.take_nil,List.drop_nil,go_sem,undef,ints,gd_i,w64];refine hN3 _ ?_;try clear hN3 N3
  refine AW.regionL envOk ?_;simp-dsimp-implicitDefEqProofs (disch:=omega)only[go_sem,ints,gd_i];refine⟨k+1,?_,by intro d cs h;exact h,?_,?_⟩
  ·simp(disch:=omega) [wks,wkA,sl,w64,ints,rows,cubes,ints,gd_i,w64]<;>omega
  ·exact⟨by first|omega|(simp only;omega)|(dsimp only;omega),by first|omega|(simp only;omega)|(dsimp only;omega)⟩
  first|omega|(simp only;omega)
 try simp only[cn]at h1
 have hke:k=w.length:=by omega
 refine AW.exit ?_;simp only[thn,blk,if_true];refine hN1 _ ?_;try clear hN1 N1
 refine AW.sr envOk (fun N hN=>?_);simp-dsimp-implicitDefEqProofs (disch:=omega)only[go_sem,ints,gd_i];refine hN _ ?_;try clear hN N
 refine AW.ret ?_;simp-dsimp-implicitDefEqProofs (disch:=omega)only[go_sem];refine⟨_,rfl,⟨by omega,by omega⟩,?_⟩
 rw[hke,upd_same,vecC,vec_map]
structure Shp (n:Nat) (os:List Int) (pw:List (List Int)) (cj:List (List (List Int))):Prop where
  o:os.length=n
  p:pw.length=n
  c:cj.length=n
  r:∀i,i<n→(cj.getD i []).length=n-1-i
  pl:rowslen pw
  cl:cubeslen cj
theorem prs_nr (os:List Int) (pw:List (List Int)) (cj:List (List (List Int))):NR (prs os pw cj):=by
  unfold prs
  exact .g _ fun k x hk=>by
    match k,hk with
    |0,hk=>cases hk;exact intsL2 _
    |1,hk=>cases hk;exact rows_nr _
    |2,hk=>cases hk;exact cubes_nr _
theorem q_sz (x y:UInt8):(ofL [32,x,94,y]).size=4:=rfl
theorem q_0 (x y:UInt8):(ofL [32,x,94,y]).data.getD 0 0=32:=rfl
theorem q_1 (x y:UInt8):(ofL [32,x,94,y]).data.getD 1 0=x:=rfl
theorem q_2 (x y:UInt8):(ofL [32,x,94,y]).data.getD 2 0=94:=rfl
theorem q_3 (x y:UInt8):(ofL [32,x,94,y]).data.getD 3 0=y:=rfl
theorem q_e (x y:UInt8):(ofL [32,x,94,y]).extract 3 4=ofL [y]:=rfl
theorem itn3:Int.toNat 3=3:=rfl
theorem ne22:(((2:Nat):Int) !=2)=false:=rfl
theorem ne44:(((4:Nat):Int) !=4)=false:=rfl
theorem ne32:(((32:UInt8).toNat:Int) !=32)=false:=rfl
theorem ne94:(((94:UInt8).toNat:Int) !=94)=false:=rfl
theorem PgW.vwA {a m t k n id:Nat} {G H':HP} {r P B:AV} {os:List Int} {x:List Int} {rs cb':List AV} {X:List Int→List (List Int)} {Y:List Int→List (List (List Int))}
    {cpf:AV→List AV} (hput:∀(H':HP) (r1:AV) (x:List Int) (is:List Nat) (a' m':Nat),Ow H' r1 (ints x) is→is.Nodup→(∀i∈is,(i<a∨m≤i)∧a'≤i∧i<m')→H' t=some (splice rs k [r1])→(∀i,a≤i→i<m→i≠t→H' i=G i)→m≤m'→a'≤a→PgW a' m' H' r P B os (X x) (Y x) (cpf r1) cb')
    (hv:H' id=some (x.map (.i .i64))) (hn:n=x.length) (hid:id<a∧id<m) (ht:H' t=some (splice rs k [.h id 0 n])) (hk:∀i,a≤i→i<m→i≠t→H' i=G i):∃ids,Own id m H' (.g [r,P,B]) (Go.Proofs.YtghmeeifjeafmaaGreat.prs os (X x) (Y x)) ids:=
  (hput H' _ x [id] id m (Ow.ints hv hn) (by simp) (fun i hi=>by rw[List.mem_singleton.1 hi];omega) ht hk (Nat.le_refl _) (by omega)).1.own
set_option maxHeartbeats 8000000 in
theorem spec_l07Relation_x (n:Nat) (os:List Int) (pw:List (List Int)) (cj:List (List (List Int))) (hn:n≤6) (hs:Shp n os pw cj) (ho:∀i,i<n→0≤os.getD i 0∧os.getD i 0<10) (l r:List UInt8) (x y:UInt8) (hll:l.length≤2097152) (hrl:r.length≤2097152) (hsp:spL 61 l=[[32,x,94,y],r]) (w:List Int) (hwl:w.length≤1048576) (hw:parR n (ofL r)= .t [ints w,.b true]) (hwv:∀k,k<w.length→1≤w.getD k 0∧w.getD k 0≤n)
 (xi:Nat) (hx:(x.toNat:Int)=97+xi) (hxn:xi<n) (os2:List Int) (pw2:List (List Int)) (cj2:List (List (List Int))) (hres:((ofL [y]).toList=(dg (os.getD xi 0)).toList∧(os2,pw2,cj2)=(os,pw.set xi (vecC n w),cj))∨(¬(ofL [y]).toList=(dg (os.getD xi 0)).toList∧∃yi:Nat,(y.toNat:Int)=97+yi∧yi<xi∧(os2,pw2,cj2)=(os,pw,cj.set yi ((cj.getD yi []).set (xi-yi-1) (vecC n w))))):
 ACp Tryz.prog 162 [prs os pw cj,.s (ofL l)] (.t [prs os2 pw2 cj2,.b true]):=by
 have hsp2:ACp Tryz.prog 160 [.s (ofL l),.i .u8 61] (strs [ofL [32,x,94,y],ofL r]):=by
  have:=spec_l01Split_ok (ofL l) 61 (by rw[ofL_sz];omega)
  rwa [spw_L,hsp]at this
 have hon:=hs.o
 subst hon
 have hpar:ACp Tryz.prog 165 [.i .i64 os.length,.s (ofL r)] (.t [ints w,.b true]):=by
  have:=spec_l06Parse_ok os.length (ofL r) (by rw[ofL_sz];omega)
  rwa [hw]at this
 have hx97:(x.toNat:Int)-97=xi:=by omega
 have hyb:=y.toNat_lt
 have hxa:decide ((xi:Int)<0)=false:=decide_eq_false (by omega)
 have hxb:decide ((xi:Int)≥os.length)=false:=decide_eq_false (by omega)
 have hxc:decide ((os.length:Int)≤xi)=false:=decide_eq_false (by omega)
 refine ACp.introV envOk Tryz.func162 rfl (by kernel_rfl) Tryz.ntmps162 Tryz.results162 ((tb_nr (prs_nr _ _ _) _)) (fun nx cX=>?_)
 refine AW.sr envOk (fun N hN=>?_);simp-dsimp-implicitDefEqProofs (disch:=omega)only[go_sem,prs,strs,itn1,itn2,itn3];refine hN _ ?_;try clear hN N
 refine AW.freezeQ 2 nx [ints os,rows pw,cubes cj] rfl (by simp(disch:=omega)only[upd_ne,upd_same]) ?_
 simp-dsimp-implicitDefEqProofs (disch:=omega)only[go_sem];refine AW.sr envOk (fun N hN=>?_);simp-dsimp-implicitDefEqProofs (disch:=omega)only[go_sem,prs,strs,itn1,itn2,itn3];refine hN _ ?_;try clear hN N
 refine AW.sr envOk (fun N hN=>?_);simp-dsimp-implicitDefEqProofs (disch:=omega)only[go_sem,prs,strs,itn1,itn2,itn3];refine AC.pure (.of (hsp2)) ?_;try simp-dsimp-implicitDefEqProofs (disch:=omega)only[go_sem,prs,strs,itn1,itn2,itn3]
 refine hN _ ?_;try clear hN N
 refine AW.seq (fun N1 hN1=>?_);refine AW.sr envOk (fun N hN=>?_);simp-dsimp-implicitDefEqProofs (disch:=omega)only[go_sem,prs,strs,itn1,itn2,itn3,ne22,ne44,ne32,ne94,q_sz,q_0,q_2];refine hN _ ?_;try clear hN N
 refine AW.condF rfl ?_;refine AW.skip ?_;simp only[thn,blk];refine hN1 _ ?_;try clear hN1 N1
 refine AW.sr envOk (fun N hN=>?_);simp-dsimp-implicitDefEqProofs (disch:=omega)only[go_sem,prs,strs,itn1,itn2,itn3,itn1];refine AC.pure (.of (hpar)) ?_;try simp-dsimp-implicitDefEqProofs (disch:=omega)only[go_sem,prs,strs,itn1,itn2,itn3]
 refine hN _ ?_;try clear hN N
 refine AW.seq (fun N2 hN2=>?_);refine AW.sr envOk (fun N hN=>?_);simp-dsimp-implicitDefEqProofs (disch:=omega)only[go_sem,prs,strs,itn1,itn2,itn3];refine hN _ ?_;try clear hN N
 refine AW.condF rfl ?_;refine AW.skip ?_;simp only[thn,blk];refine hN2 _ ?_;try clear hN2 N2
 refine AW.sr envOk (fun N hN=>?_);simp-dsimp-implicitDefEqProofs (disch:=omega)only[go_sem,prs,strs,itn1,itn2,itn3];refine(AC.frame (spec_l07Vector_n os.length w (by omega) hwl hwv _)).mono2 ?_
 rintro m0 H0 rv hm0 ⟨G9,⟨idv,rfl,⟨hv1,hv2⟩,hv9⟩,hlow0,hhigh0⟩
 have hv3:=(hhigh0 idv hv1).trans hv9
 have hx00:H0 (nx+1)=some [.nl,.nl,.nl]:=by rw[hlow0 _ (by omega)];simp(disch:=omega)only[upd_ne,upd_same]
 try simp-dsimp-implicitDefEqProofs (disch:=omega)only[go_sem,prs,strs]
 refine hN _ ?_;try clear hN N
 refine AW.seq (fun N hN=>?_);refine AW.drawL envOk (by kernel_rfl) 14 (by kernel_rfl) ?_
 simp-dsimp-implicitDefEqProofs (disch:=omega)only[hr_nil,hr_one,hr_if,List.take_succ_cons,List.take_zero,List.drop_succ_cons,List.drop_zero,List.take_nil,List.drop_nil,go_sem,undef,prs,strs,w64,itn1,itn2,itn3,q_sz,q_1,q_3,hx97];refine hN _ ?_;try clear hN N
 refine AW.seq (fun N3 hN3=>?_);refine AW.sr envOk (fun N hN=>?_);simp-dsimp-implicitDefEqProofs (disch:=omega)only[go_sem,prs,strs,itn1,itn2,itn3,hxa,hxb,hxc];refine hN _ ?_;try clear hN N
 refine AW.condF rfl ?_;refine AW.skip ?_;simp only[thn,blk];refine hN3 _ ?_;try clear hN3 N3
 refine AW.sr envOk (fun N hN=>?_);simp-dsimp-implicitDefEqProofs (disch:=omega)only[go_sem,prs,strs,itn1,itn2,itn3];refine(AC.frame (spec_l07Own_w os pw cj (by omega) hs.pl hs.cl _)).mono2 ?_
 rintro m1 H1 rr hm1 ⟨G0,⟨r0,P,B,cp,cb,rfl,hW⟩,hlow,hhigh⟩
 have hW1:=hW.keep (H':=H1) (fun i i1 i2=>hhigh i i1) (Nat.le_refl _)
 have hPo:=hW1.2.1.one
 have hBo:=hW1.2.2.1.one
 have hro:=hW1.r0
 try simp-dsimp-implicitDefEqProofs (disch:=omega)only[go_sem,hPo,hBo,hro]
 refine hN _ ?_;try clear hN N
 refine AW.seq (fun N4 hN4=>?_);refine AW.nameH (fun G1 hG1=>?_);dsimp only at hG1
 have hq:G1 (m0+14+11+2)=some [r0,P,B]:=by rw[←hG1];simp(disch:=omega)only[upd_same]
 have hx0:G1 (nx+1)=some [.nl,.nl,.nl]:=by rw[←hG1,upd_ne _ _ (by omega),hlow _ (by omega)];exact hx00
 have hv4:G1 idv=some ((vecC os.length w).map (.i .i64)):=by rw[←hG1,upd_ne _ _ (by omega),hlow _ (by omega)];exact hv3
 have hW2:=hW1.keep (H':=G1) (fun i i1 i2=>by rw[←hG1];simp(disch:=omega)only[upd_ne]) (Nat.le_refl _)
 have hgi:=gd_i (xs:=os) (k:=xi) hxn
 refine AW.seq (fun N hN=>?_);refine AW.drawL envOk (by kernel_rfl) 11 (by kernel_rfl) ?_
 simp-dsimp-implicitDefEqProofs (disch:=omega)only[hr_nil,hr_one,hr_if,List.take_succ_cons,List.take_zero,List.drop_succ_cons,List.drop_zero,List.take_nil,List.drop_nil,go_sem,undef,prs,strs,w64,itn1,itn2,itn3,q_sz,q_e,ints,hgi,Int.toNat_natCast];refine⟨_,.of (spec_l01Dec_ok (os.getD xi 0) (ho xi hxn).1 (ho xi hxn).2),?_⟩
 try simp-dsimp-implicitDefEqProofs (disch:=omega)only[go_sem,prs,strs,itn1,itn2,itn3]
 refine hN _ ?_;try clear hN N
 refine AW.cond rfl (fun h1=>?_) (fun h1=>?_)
 ·try simp only[cn]at h1
  have hdg:(ofL [y]).toList=(dg (os.getD xi 0)).toList:=by simpa using h1
  obtain⟨_,e⟩:=hres.resolve_right (fun h=>h.1 hdg)
  simp only[Prod.mk.injEq]at e
  obtain⟨rfl,rfl,rfl⟩:=e
  have hxp:xi<pw.length:=by rw[hs.p];exact hxn
  obtain⟨p,rfl,hp,hpl,hpb,hput⟩:=hW2.setP (k:=xi) hxp
  refine AW.sr envOk (fun N hN=>?_);simp-dsimp-implicitDefEqProofs (disch:=omega)only[go_sem,prs,strs,itn1,itn2,itn3,hq,hp,hpl,Int.toNat_natCast];refine hN _ ?_;try clear hN N
  refine AW.sr envOk (fun N hN=>?_);simp-dsimp-implicitDefEqProofs (disch:=omega)only[go_sem,prs,strs,itn1,itn2,itn3,hx0,hq,hPo,hBo,hro];refine hN _ ?_;try clear hN N
  refine AW.ret ?_;simp-dsimp-implicitDefEqProofs (disch:=omega)only[go_sem];refine vw_tb ?_
  obtain⟨ids,ho⟩:=PgW.vwA hput (H':=upd (upd G1 p (some (splice cp xi [.h idv 0 os2.length]))) (nx+1) (some [r0,.h p 0 pw.length,B])) (id:=idv) (n:=os2.length) (by simp(disch:=omega)only[upd_ne];exact hv4) (vecC_len _ _).symm (by omega) (by simp(disch:=omega)only[upd_ne,upd_same]) (fun i i1 i2 i3=>by simp(disch:=omega)only[upd_ne])
  exact ho.1.vw
 try simp only[cn]at h1
 have hdg:¬(ofL [y]).toList=(dg (os.getD xi 0)).toList:=by simpa using h1
 obtain⟨_,yi,hy,hyx,e⟩:=hres.resolve_left (fun h=>hdg h.1)
 simp only[Prod.mk.injEq]at e
 obtain⟨rfl,rfl,rfl⟩:=e
 refine AW.skip ?_;simp only[thn,blk];refine hN4 _ ?_;try clear hN4 N4
 refine AW.seq (fun N5 hN5=>?_);refine AW.sr envOk (fun N hN=>?_);simp-dsimp-implicitDefEqProofs (disch:=omega)only[go_sem,prs,strs,itn1,itn2,itn3];refine gopB.mk' (fun h2=>?_) (fun h2=>?_)
 ·try simp only[cn]at h2
  try simp-dsimp-implicitDefEqProofs (disch:=omega)only[go_sem,prs,strs,itn1,itn2,itn3]
  refine hN _ ?_;try clear hN N
  refine AW.cond rfl (fun h3=>?_) (fun h3=>?_)
  ·try simp only[cn]at h3
   omega
  try simp only[cn]at h3
  have hc1:yi<cj.length:=by rw[hs.c];omega
  have hc2:xi-yi-1<(cj.getD yi []).length:=by rw[hs.r yi (by omega)];omega
  obtain⟨b,q,ds,rfl,hb,hcl,b12,hbq,hd,hdl,q12,hqb,hput⟩:=hW2.setB hc1 hc2
  have ey:(y.toNat:Int)-97=yi:=by omega
  have exy:((xi:Int)-yi-1).toNat=xi-yi-1:=by omega
  refine AW.skip ?_;simp only[thn,blk];refine hN5 _ ?_;try clear hN5 N5
  refine AW.sr envOk (fun N hN=>?_);simp-dsimp-implicitDefEqProofs (disch:=omega)only[go_sem,prs,strs,itn1,itn2,itn3,hq,hb,hcl,hbq,hd,hdl,ey,exy,Int.toNat_natCast];refine hN _ ?_;try clear hN N
  refine AW.sr envOk (fun N hN=>?_);simp-dsimp-implicitDefEqProofs (disch:=omega)only[go_sem,prs,strs,itn1,itn2,itn3,hx0,hq,hPo,hBo,hro];refine hN _ ?_;try clear hN N
  refine AW.ret ?_;simp-dsimp-implicitDefEqProofs (disch:=omega)only[go_sem];refine vw_tb ?_
  obtain⟨ids,ho⟩:=PgW.vwA hput (H':=upd (upd G1 q (some (splice ds (xi-yi-1) [.h idv 0 os2.length]))) (nx+1) (some [r0,P,.h b 0 cj.length])) (id:=idv) (n:=os2.length) (by simp(disch:=omega)only[upd_ne];exact hv4) (vecC_len _ _).symm (by omega) (by simp(disch:=omega)only[upd_ne,upd_same]) (fun i i1 i2 i3=>by simp(disch:=omega)only[upd_ne])
  exact ho.1.vw
 try simp only[cn]at h2
 omega
end Go.Proofs.YtghmeeifjeafmaaGreat
