import Derived.Test.YtghmeeifjeafmaaGreatZ43
set_option linter.unusedVariables false
set_option linter.unusedSimpArgs false
namespace Go.Proofs.YtghmeeifjeafmaaGreat
open Nat (reduceAdd reduceSub reduceGT reduceEqDiff reduceMul)
theorem t2_nr {x:AV} (h:NR x) (e:Int):NR (.t [x,.i .i64 e]):= .t _ fun k y hk=>by
  match k,hk with
  |0,hk=>cases hk;exact h
  |1,hk=>cases hk;exact .i _ _
abbrev PD:=List Int×List (List Int)×List (List (List Int))
def parC (n:Nat) (r:List UInt8):Option (List Int):=if (r.all fun b=>decide (97≤b.toNat)&& decide (b.toNat<97+n))=true∧r≠ []then some (r.map fun b=>(b.toNat:Int)-96)else none
def relC (s:PD) (l:List UInt8):Option PD:=
  match spL 61 l with
  | [[a,x,b,y],r]=>if a=32∧b=94∧97≤x.toNat∧x.toNat-97<s.1.length then
      (parC s.1.length r).bind fun w=>
        if [y]=dgL (s.1.getD (x.toNat-97) 0)then some (s.1,s.2.1.set (x.toNat-97) (vecC s.1.length w),s.2.2)
        else if 97≤y.toNat∧y.toNat-97<x.toNat-97 then some (s.1,s.2.1,s.2.2.set (y.toNat-97) ((s.2.2.getD (y.toNat-97) []).set (x.toNat-97-(y.toNat-97)-1) (vecC s.1.length w)))else none
    else none
  |_=>none
def stC (s:PD) (ps:List (List UInt8)):Nat→Option PD
  |0=>some s
  |k+1=>(stC s ps k).bind fun t=>relC t (ps.getD k [])
def xpC (os v:List Int) (z:Nat):Bool:=decide (v.length=os.length)&&(List.range v.length).all fun k=>decide (0≤v.getD k 0)&& decide (v.getD k 0≤os.getD k 0-1)&&(decide (z<k)||decide (v.getD k 0=0))
def presC (s:PD):Bool:=decide (s.1.length≤6)&& decide (s.2.1.length=s.1.length)&& decide (s.2.2.length=s.1.length)&&((List.range s.1.length).all fun i=>decide (s.1.getD i 0=2)||decide (s.1.getD i 0=3)||decide (s.1.getD i 0=5)||decide (s.1.getD i 0=7))&& decide (prd s.1 s.1.length≤729)&&
  (List.range s.1.length).all fun i=>xpC s.1 (s.2.1.getD i []) i && decide ((s.2.2.getD i []).length+1+i=s.1.length)&&(List.range (s.2.2.getD i []).length).all fun k=>xpC s.1 ((s.2.2.getD i []).getD k []) i
def ppS (l:List UInt8):Option PD:=match spL 59 l with
  |[]=>none
  |h::ps=>(ordC h).bind fun os=>(stC (os,trP os.length,trC os.length) ps ps.length).bind fun s=>if presC s=true∧txC s.1 s.2.1 s.2.2=l then some s else none
theorem xpC_ok {os v:List Int} {z:Nat} (h:xpC os v z=true):xpP os v z:=by
  simp only[xpC,Bool.and_eq_true,decide_eq_true_eq,List.all_eq_true,List.mem_range,Bool.or_eq_true]at h
  exact⟨h.1,fun k hk=>⟨(h.2 k hk).1,fun hz=>by have:=(h.2 k hk).2;omega⟩⟩
theorem presC_ok {s:PD} (h:presC s=true):presOk s.1 s.2.1 s.2.2:=by
  simp only[presC,Bool.and_eq_true,decide_eq_true_eq,List.all_eq_true,List.mem_range,Bool.or_eq_true]at h
  obtain⟨⟨⟨⟨⟨h1,h2⟩,h3⟩,h4⟩,h5⟩,h6⟩:=h
  refine⟨⟨h1,h2,h3⟩,fun i hi=>?_,h5,fun i hi=>⟨xpC_ok (h6 i hi).1.1,(h6 i hi).1.2,fun k hk=>xpC_ok ((h6 i hi).2 k hk)⟩⟩
  have:=h4 i hi
  unfold pr4;omega
theorem parC_ok {n:Nat} {r:List UInt8} {w:List Int} (h:parC n r=some w):parR n (ofL r)= .t [ints w,.b true]∧w.length=r.length∧∀k,k<w.length→1≤w.getD k 0∧w.getD k 0≤n:=by
  unfold parC at h
  split at h
  · rename_i hc
    obtain⟨h1,h2⟩:=hc
    cases h
    simp only[List.all_eq_true,Bool.and_eq_true,decide_eq_true_eq]at h1
    have hb:∀k,k<r.length→byt (ofL r) k=((r.getD k 0).toNat:Int):=fun k hk=>by simp[byt,ofL]
    have hr:∀k,k<r.length→97≤(r.getD k 0).toNat∧(r.getD k 0).toNat<97+n:=fun k hk=>by
      have:=h1 (r.getD k 0) (by simp[hk])
      exact this
    have hp:∀k,k<r.length→pl1 n (byt (ofL r) k)=some (((r.getD k 0).toNat:Int)-96):=fun k hk=>by
      rw[hb k hk,pl_a (by have:=hr k hk;omega)];congr 1;omega
    have h49:¬(ofL r).toList=(⟨#[49]⟩:ByteArray).toList:=by
      intro e
      have e2:r=[49]:=toL_eq.1 e
      have:=hr 0 (by rw[e2];decide)
      rw[e2]at this
      simp at this
    have hall:plAll n (ofL r):=fun j hj=>by rw[ofL_sz]at hj;rw[hp j hj];simp
    have hl:ltrs n (ofL r) (ofL r).size=r.map fun b=>(b.toNat:Int)-96:=by
      rw[ofL_sz]
      apply List.ext_getElem?
      intro k
      simp only[ltrs,List.getElem?_map]
      by_cases hk:k<r.length
      · rw[List.getElem?_range hk,Option.map_some,hp k hk,List.getElem?_eq_getElem hk]
        simp[hk]
      rw[List.getElem?_eq_none (by simpa using hk),List.getElem?_eq_none (by simpa using hk)];rfl
    refine⟨?_,by simp,fun k hk=>?_⟩
    · rw[par_yes h49 hall,lcs,hl]
      have hpos:decide ((((ofL r).size:Nat):Int)>0)=true:=by
        rw[ofL_sz,decide_eq_true_eq]
        have:0<r.length:=List.length_pos_iff.2 h2
        omega
      rw[hpos,ints,ofL_sz,List.length_map]
    rw[List.length_map]at hk
    have:=hr k hk
    have e:(r.map fun b=>(b.toNat:Int)-96).getD k 0=((r.getD k 0).toNat:Int)-96:=by simp[hk]
    rw[e];omega
  cases h
theorem rowslen.set {X:List (List Int)} {v:List Int} {k:Nat} (h:rowslen X) (hv:v.length≤1048576):rowslen (X.set k v):=
  ⟨by have:=h.n;simpa using this,fun x hx=>by
    rcases List.mem_or_eq_of_mem_set hx with hx|rfl
    · exact h.v x hx
    exact hv⟩
theorem cubeslen.set {Y:List (List (List Int))} {X:List (List Int)} {k:Nat} (h:cubeslen Y) (hv:rowslen X):cubeslen (Y.set k X):=
  ⟨by have:=h.n;simpa using this,fun x hx=>by
    rcases List.mem_or_eq_of_mem_set hx with hx|rfl
    · exact h.v x hx
    exact hv⟩
theorem gd_set {α:Type} {L:List α} {k i:Nat} {x d:α}:(L.set k x).getD i d=if k=i∧i<L.length then x else L.getD i d:=by
  rw[List.getD_eq_getElem?_getD,List.getElem?_set]
  by_cases h:k=i
  · subst h
    by_cases h2:k<L.length
    · simp[h2]
    simp[h2]
  simp[h]
theorem relC_ok {s s2:PD} {l:List UInt8} {n:Nat} (h:relC s l=some s2) (hll:l.length≤1048576) (hn:n≤6) (hs:Shp n s.1 s.2.1 s.2.2) (ho:∀i,i<n→0≤s.1.getD i 0∧s.1.getD i 0<10):
    ACp Tryz.prog 162 [prs s.1 s.2.1 s.2.2,.s (ofL l)] (.t [prs s2.1 s2.2.1 s2.2.2,.b true])∧Shp n s2.1 s2.2.1 s2.2.2∧s2.1=s.1:=by
  have hson:=hs.o
  unfold relC at h
  split at h
  · rename_i a x b y r hsp
    split at h
    · rename_i hc
      obtain⟨rfl,rfl,hx1,hx2⟩:=hc
      obtain⟨w,hw,h⟩:=Option.bind_eq_some_iff.1 h
      obtain⟨hpar,hwl,hwv⟩:=parC_ok hw
      rw[hson]at hx2 hpar hwv h
      have hjn:=jnc_spL 61 l
      rw[hsp]at hjn
      have hrl:r.length≤l.length:=by rw[←hjn];simp[jnc];omega
      have hxi:(x.toNat:Int)=97+((x.toNat-97:Nat):Int):=by omega
      have hvl:(vecC n w).length≤1048576:=by rw[vecC_len];omega
      split at h
      · rename_i hd
        cases h
        refine⟨spec_l07Relation_x n s.1 s.2.1 s.2.2 hn hs ho l r x y (by omega) (by omega) hsp w (by omega) hpar hwv (x.toNat-97) hxi hx2 _ _ _ (.inl ⟨?_,rfl⟩),⟨hs.o,by simpa using hs.p,hs.c,hs.r,hs.pl.set hvl,hs.cl⟩,rfl⟩
        rw[dg_L,toL_eq];exact hd
      rename_i hd
      split at h
      · rename_i hy
        cases h
        have hr0:rowslen (s.2.2.getD (y.toNat-97) []):=getD_mem hs.cl.v .nil _
        refine⟨spec_l07Relation_x n s.1 s.2.1 s.2.2 hn hs ho l r x y (by omega) (by omega) hsp w (by omega) hpar hwv (x.toNat-97) hxi hx2 _ _ _ (.inr ⟨?_,y.toNat-97,by omega,hy.2,rfl⟩),⟨hs.o,hs.p,by simpa using hs.c,fun i hi=>?_,hs.pl,hs.cl.set (hr0.set hvl)⟩,rfl⟩
        · rw[dg_L,toL_eq];exact hd
        rw[gd_set]
        split
        · rename_i e
          rw[List.length_set,e.1];exact hs.r i hi
        exact hs.r i hi
      cases h
    cases h
  cases h
theorem stC_mono {s:PD} {ps:List (List UInt8)}:∀(d k:Nat) {t:PD},stC s ps (k+d)=some t→∃u,stC s ps k=some u:=by
  intro d
  induction d with
  |zero=>intro k t h;exact⟨t,h⟩
  | succ d ih=>
    intro k t h
    rw[Nat.add_succ,stC]at h
    obtain⟨u,hu,_⟩:=Option.bind_eq_some_iff.1 h
    exact ih k hu
theorem trShp (os:List Int) (h:os.length≤6):Shp os.length os (trP os.length) (trC os.length):=by
  refine⟨rfl,trP_len _,trC_len _,fun i hi=>?_,⟨by rw[trP_len];omega,fun x hx=>?_⟩,⟨by rw[trC_len];omega,fun x hx=>?_⟩⟩
  · have:(trC os.length).getD i []=trR os.length i:=by simp[trC,hi]
    rw[this,trR_len];omega
  · rw[trP]at hx
    rw[List.eq_of_mem_replicate hx];simp;omega
  rw[trC,List.mem_map]at hx
  obtain⟨i,_,rfl⟩:=hx
  refine⟨by rw[trR_len];omega,fun y hy=>?_⟩
  rw[trR,List.mem_map]at hy
  obtain⟨j,_,rfl⟩:=hy
  rw[unL_len];omega
theorem spL_len (c:UInt8) (l:List UInt8):∀p∈spL c l,p.length≤l.length:=by
  have h:∀ps:List (List UInt8),∀p∈ps,p.length≤(jnc c ps).length:=by
    intro ps
    induction ps with
    |nil=>intro p hp;cases hp
    | cons q ps ih=>
      intro p hp
      cases ps with
      | nil=>
        rcases List.mem_cons.1 hp with rfl|hp
        · exact Nat.le_refl _
        cases hp
      | cons r rs=>
        rw[jnc,List.length_append,List.length_cons]
        rcases List.mem_cons.1 hp with rfl|hp
        · omega
        have:=ih p hp;omega
  intro p hp
  have:=h (spL c l) p hp
  rwa [jnc_spL]at this
theorem bne_selfB (a:List UInt8):(a !=a)=false:=by simp
set_option maxHeartbeats 8000000 in
theorem spec_ParsePresentation_ok (l:List UInt8) (s2:PD) (hl:l.length≤1048576) (h:ppS l=some s2):ACp Tryz.prog 158 [.s (ofL l)] (.t [prs s2.1 s2.2.1 s2.2.2,.i .i64 0]):=by
 have hsp2:ACp Tryz.prog 160 [.s (ofL l),.i .u8 59] (strs ((spL 59 l).map ofL)):=by
  have:=spec_l01Split_ok (ofL l) 59 (by rw[ofL_sz];omega)
  rwa [spw_L]at this
 have hpl:=spL_len 59 l
 have hpc:(spL 59 l).length≤1048577:=by
  have:=spw_len 59 (ofL l)
  rw[spw_L,List.length_map]at this
  have h2:=cnt_sz 59 (ofL l)
  rw[ofL_sz]at h2;omega
 unfold ppS at h
 generalize hps:spL 59 l=ps0 at h hsp2 hpl hpc
 rcases ps0 with _|⟨hd,ps⟩
 ·cases h
 obtain⟨os,hos,h⟩:=Option.bind_eq_some_iff.1 h
 obtain⟨s,hst,h⟩:=Option.bind_eq_some_iff.1 h
 have hcond:presC s=true∧txC s.1 s.2.1 s.2.2=l:=by
  apply Classical.byContradiction;intro hn;rw[if_neg hn]at h;cases h
 rw[if_pos hcond]at h
 cases h
 have hok:=presC_ok hcond.1
 have hpc2:ps.length≤1048577:=by rw[List.length_cons]at hpc;omega
 have hos6:os.length≤6∧∀i,i<os.length→0≤os.getD i 0∧os.getD i 0<10:=by
  have h2:=hos
  unfold ordC at h2
  split at h2
  ·cases h2;exact⟨by simp,fun i hi=>by simp at hi⟩
  obtain⟨ds,hds,h3⟩:=Option.bind_eq_some_iff.1 h2
  split at h3
  ·rename_i hc
   cases h3
   obtain⟨g1,g2⟩:=digsC_at hds
   exact⟨hc.1,fun i hi=>by have:=pr4_bd (digC_val (g2 i (by omega))).2;omega⟩
  cases h3
 have hol:=spec_l07Orders_ok hd os (by have:=hpl hd (by simp);omega) hos
 refine ACp.introV envOk Tryz.func158 rfl (by kernel_rfl) Tryz.ntmps158 Tryz.results158 ((t2_nr (prs_nr _ _ _) _)) (fun nx cX=>?_)
 refine AW.sr envOk (fun N hN=>?_);simp-dsimp-implicitDefEqProofs (disch:=omega)only[go_sem,prs];refine hN _ ?_;try clear hN N
 refine AW.sr envOk (fun N hN=>?_);simp-dsimp-implicitDefEqProofs (disch:=omega)only[go_sem,prs];refine AC.pure (.of (hsp2)) ?_;try simp-dsimp-implicitDefEqProofs (disch:=omega)only[go_sem,prs]
 refine hN _ ?_;try clear hN N
 refine AW.sr envOk (fun N hN=>?_);simp-dsimp-implicitDefEqProofs (disch:=omega)only[go_sem,prs,strs];refine AC.pure (.of (hol)) ?_;try simp-dsimp-implicitDefEqProofs (disch:=omega)only[go_sem,prs]
 refine hN _ ?_;try clear hN N
 refine AW.seq (fun N1 hN1=>?_);refine AW.sr envOk (fun N hN=>?_);simp-dsimp-implicitDefEqProofs (disch:=omega)only[go_sem,prs];refine hN _ ?_;try clear hN N
 refine AW.condF rfl ?_;refine AW.skip ?_;simp only[thn,blk];refine hN1 _ ?_;try clear hN1 N1
 refine AW.sr envOk (fun N hN=>?_);simp-dsimp-implicitDefEqProofs (disch:=omega)only[go_sem,prs];refine AC.pure (.of ((spec_l07Trivial_o os (by omega)).pure)) ?_;try simp-dsimp-implicitDefEqProofs (disch:=omega)only[go_sem,prs]
 refine hN _ ?_;try clear hN N
 refine AW.seq (fun N2 hN2=>?_);refine AW.sr envOk (fun N hN=>?_);simp-dsimp-implicitDefEqProofs (disch:=omega)only[go_sem,prs];refine hN _ ?_;try clear hN N
 refine AW.block ?_;refine AW.loopN (α:=Nat×PD) (fun x=>sl 52 [(0,.s (ofL l)),(2,.q nx 0),(4,strs ((hd::ps).map ofL)),(7,.q (nx+2+3+9+2+2) 0),(8,.i .i64 ((x.1+1:Nat):Int))]) (fun x=>upd (upd noH nx (some [.nl,.nl,.nl])) (nx+2+3+9+2+2) (some [ints x.2.1,rows x.2.2.1,cubes x.2.2.2])) (fun x m=>x.1≤ps.length∧stC (os,trP os.length,trC os.length) ps x.1=some x.2∧Shp os.length x.2.1 x.2.2.1 x.2.2.2∧x.2.1=os) (fun x=>ps.length-x.1) ((0,(os,trP os.length,trC os.length))) ?_ ?_ (by intro d cs hd;exact hd) ?_
 ·exact⟨by simp,rfl,trShp os hos6.1,rfl⟩
 ·simp(disch:=omega) [wks,wkA,sl,strs]
 skip
 rintro⟨k,s⟩ m ⟨hk,hsk,hshp,hso⟩
 simp-dsimp-implicitDefEqProofs (disch:=omega)only[go_sem];dsimp only at hk hsk hshp hso ⊢
 refine AW.seq (fun N3 hN3=>?_);refine AW.sr envOk (fun N hN=>?_);simp-dsimp-implicitDefEqProofs (disch:=omega)only[go_sem,prs,strs];refine hN _ ?_;try clear hN N
 refine AW.cond rfl (fun h1=>?_) (fun h1=>?_)
 ·try simp only[cn]at h1
  have hkn:k<ps.length:=by omega
  obtain⟨u,hu⟩:=stC_mono (s:=(os,trP os.length,trC os.length)) (ps:=ps) (ps.length-(k+1)) (k+1) (t:=s2) (by rw[show k+1+(ps.length-(k+1))=ps.length by omega];exact hst)
  have hu2:=hu
  rw[stC,hsk]at hu2
  obtain⟨hrel,hshp2,hso2⟩:=relC_ok (n:=os.length) hu2 (by have:=hpl (ps.getD k []) (by simp[hkn]);omega) hos6.1 hshp (by rw[hso];exact hos6.2)
  have hg:=strs_ofL ps (k:=k) hkn
  refine AW.skip ?_;simp only[thn,blk];refine hN3 _ ?_;try clear hN3 N3
  refine AW.seq (fun N4 hN4=>?_);refine AW.block ?_;refine AW.seq (fun N hN=>?_);refine AW.drawT envOk (by kernel_rfl) [false,true,true,true,true,false,false,false,false,false,false] (.br 0 (.br 5 (.br 6 (.br 7 (.br 8 (.br 9 (.br 10 .nil .nil) .nil) (.br 9 (.br 8 (.br 10 .nil .nil) .nil) .nil)) (.br 8 (.br 7 (.br 9 (.br 10 .nil .nil) .nil) .nil) .nil)) .nil) .nil) .nil) (by kernel_rfl) ?_
  simp-dsimp-implicitDefEqProofs (disch:=omega)only[go_sem,prs,↓hrF_t,↓hrF_f,↓hrF_n,strs,hg,Int.toNat_natCast]
  refine AC.pure (.of (hrel)) ?_;try simp-dsimp-implicitDefEqProofs (disch:=omega)only[go_sem,prs,strs,and_self]
  refine hN _ ?_;try clear hN N
  refine AW.sr envOk (fun N hN=>?_);simp-dsimp-implicitDefEqProofs (disch:=omega)only[go_sem,prs];refine hN _ ?_;try clear hN N
  refine AW.condF rfl ?_;refine AW.skip ?_;simp only[thn,blk];refine hN4 _ ?_;try clear hN4 N4
  refine AW.regionL envOk ?_;simp-dsimp-implicitDefEqProofs (disch:=omega)only[go_sem,prs];refine⟨(k+1,u),?_,by intro d cs hd;simp only[upd]at hd ⊢;grind,?_,?_⟩
  ·simp(disch:=omega) [wks,wkA,sl,strs,w64]<;>rw[w64 (by omega) (by omega)]
  ·exact⟨by first|omega|(simp only;omega)|(dsimp only;omega),hu,hshp2,hso2.trans hso⟩
  first|omega|(simp only;omega)
 try simp only[cn]at h1
 have hke:k=ps.length:=by omega
 rw[hke,hst]at hsk
 cases hsk
 have htf:tf (presOk s2.1 s2.2.1 s2.2.2)=true:=tf_t hok
 have hip:=spec_IsPresentation_ok s2.1 s2.2.1 s2.2.2 ⟨by have:=hshp.o;omega,ringlen.of hshp.pl hshp.cl⟩
 rw[htf]at hip
 have htx:=spec_l07Text_ok s2.1 s2.2.1 s2.2.2 hok
 rw[hcond.2]at htx
 refine AW.exit ?_;simp only[thn,blk,if_true];refine hN2 _ ?_;try clear hN2 N2
 refine AW.seq (fun N5 hN5=>?_);refine AW.sr envOk (fun N hN=>?_);simp-dsimp-implicitDefEqProofs (disch:=omega)only[go_sem,prs];refine AC.pure (.of (hip)) ?_;try simp-dsimp-implicitDefEqProofs (disch:=omega)only[go_sem,prs,Bool.not_true]
 refine AC.pure (.of (htx)) ?_;try simp-dsimp-implicitDefEqProofs (disch:=omega)only[go_sem,prs,bne_selfB,beq_self_eq_true,Bool.not_true,decide_true,decide_not,decide_false,bne_self_eq_false]
 refine hN _ ?_;try clear hN N
 refine AW.condF rfl ?_;refine AW.skip ?_;simp only[thn,blk];refine hN5 _ ?_;try clear hN5 N5
 refine AW.sr envOk (fun N hN=>?_);simp-dsimp-implicitDefEqProofs (disch:=omega)only[go_sem,prs];refine hN _ ?_;try clear hN N
 refine AW.ret ?_;simp-dsimp-implicitDefEqProofs (disch:=omega)only[go_sem];exact .refl _
theorem ppS_ok {l:List UInt8} {s2:PD} (h:ppS l=some s2):presOk s2.1 s2.2.1 s2.2.2∧txC s2.1 s2.2.1 s2.2.2=l:=by
  unfold ppS at h
  split at h
  · cases h
  obtain⟨os,hos,h⟩:=Option.bind_eq_some_iff.1 h
  obtain⟨s,hst,h⟩:=Option.bind_eq_some_iff.1 h
  split at h
  · rename_i hc
    cases h
    exact⟨presC_ok hc.1,hc.2⟩
  cases h
end Go.Proofs.YtghmeeifjeafmaaGreat
