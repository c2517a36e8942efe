import Derived.Test.YtghmeeifjeafmaaGreatZ18
set_option linter.unusedVariables false
set_option linter.unusedSimpArgs false
namespace Go.Proofs.YtghmeeifjeafmaaGreat
open Nat (reduceAdd reduceSub reduceGT reduceEqDiff reduceMul)
def fpoM (b:Bool) (os:List Int) (pw:List (List Int)) (cj:List (List (List Int))):(Int×List (List Int))×Int:=match b with
  |false=>((0,[]),1)
  |true=>if (os.length:Int)>4 then ((0,[]),3)else ((os.length,rels os pw cj),0)
def resP (b:Bool) (os:List Int) (pw:List (List Int)) (cj:List (List (List Int))):AV:=match b with
  |false=> .t [rows [],.i .i64 1]
  |true=> .t [rows (rels os pw cj),.i .i64 0]
def relP (b:Bool) (os:List Int) (pw:List (List Int)) (cj:List (List (List Int))):List (List Int):=match b with
  |false=>[]
  |true=>rels os pw cj
def errP (b:Bool):Int:=match b with
  |false=>1
  |true=>0
theorem resP_eq {b:Bool} {os:List Int} {pw:List (List Int)} {cj:List (List (List Int))}:resP b os pw cj= .t [rows (relP b os pw cj),.i .i64 (errP b)]:=by cases b<;>rfl
theorem Own.posI {a b:Nat} {H:HP} {r:AV} {X:List Int} {ids:List Nat} (h:Own a b H r (Go.Proofs.YtghmeeifjeafmaaGreat.ints X) ids) (hp:0<X.length):∃id,r= .h id 0 X.length∧H id=some (X.map (.i .i64))∧a≤id∧id<b:=by
  rcases h.1.ints_inv with ⟨h1,_⟩|⟨id,h1,h2,h3⟩
  · subst h1;simp at hp
  exact⟨id,h1,by rw[map_ivs];exact h3,(h.2.2 id h2).1,(h.2.2 id h2).2⟩
theorem OutB.app {a m m2 q id2 n:Nat} {o:Option Nat} {rs:List AV} {H H1 Hn:HP} {W:List (List Int)} {X:List Int} (h:OutB a m o rs H W) (hH:∀i,i<m→H1 i=oH H o rs i)
    (hk:∀i,i<m→o≠some i→Hn i=H1 i) (hq:Hn q=some (X.map (.i .i64))) (hd:∀i,m2≤i→Hn i=none) (hn:n=X.length) (h0:m≤q) (h1:q<id2) (h2:id2<m2) (ha:a≤m):
    OutB a m2 (some id2) (rs++[.h q 0 n]) Hn (W++[X]):=by
  refine h.push2 (m0:=m) (m1:=q+1) (Own.ints hq hn h0 (by omega)) (fun i q1 q2 q3=>?_) (fun _ _ _=>rfl) hd (Nat.le_refl _) (by omega) h2 (by omega) ha
  rw[hk i q2 q3,hH i q2]
  cases o with
  |none=>rfl
  |some id=>exact upd_ne _ _ (fun e=>q3 (by rw[e]))
set_option maxHeartbeats 1000000 in
theorem impl_PresentationRelators_ok (os:List Int) (pw:List (List Int)) (cj:List (List (List Int))) (hl:prlen os pw cj):ACo Tryz.prog 32 [prs os pw cj] (resP (tf (presOk os pw cj)) os pw cj):=by
 intro nx
 refine AC.intro' envOk Tryz.func32 rfl (by kernel_rfl) Tryz.ntmps32 Tryz.results32 (fun cX=>?_)
 refine AW.sr envOk (fun N hN=>?_);simp-dsimp-implicitDefEqProofs (maxSteps:=800000) (disch:=omega)only[go_sem,prs,ints,rows,cubes,gd_i,gd_r,gd_c,one_hq];refine hN _ ?_;try clear hN N
 refine AW.freezeQ 1 nx _ rfl (upd_same _ _ _) ?_
 simp-dsimp-implicitDefEqProofs (maxSteps:=800000) (disch:=omega)only[go_sem];refine AW.seq (fun N1 hN1=>?_);refine AW.sr envOk (fun N hN=>?_);simp-dsimp-implicitDefEqProofs (maxSteps:=800000) (disch:=omega)only[go_sem,prs,ints,rows,cubes,gd_i,gd_r,gd_c,one_hq];refine AC.pure (.of (impl_IsPresentation_ok os pw cj hl)) ?_;try simp-dsimp-implicitDefEqProofs (maxSteps:=800000) (disch:=omega)only[go_sem,prs,ints,rows,cubes,gd_i,gd_r,gd_c,one_hq]
 refine hN _ ?_;try clear hN N
 refine AW.cond rfl (fun h1=>?_) (fun h1=>?_)
 ·try simp only[cn]at h1
  refine AW.sr envOk (fun N hN=>?_);simp-dsimp-implicitDefEqProofs (maxSteps:=800000) (disch:=omega)only[go_sem,prs,ints,rows,cubes,gd_i,gd_r,gd_c,one_hq];refine hN _ ?_;try clear hN N
  refine AW.ret ?_;simp-dsimp-implicitDefEqProofs (maxSteps:=800000) (disch:=omega)only[go_sem];rw[tf_f h1]
  have h0:Own nx (nx+3+3+2) (upd noH nx none) .nl (rows []) []:=⟨.nl,by simp,by simp⟩
  exact h0.pair (k:= .i64) (e:=1)
 try simp only[cn]at h1
 have h:=h1
 have hn6:=h.1.1
 have hpl:=h.1.2.1
 have hcl:=h.1.2.2
 refine AW.skip ?_;simp only[thn,blk];refine hN1 _ ?_;try clear hN1 N1
 refine AW.sr envOk (fun N hN=>?_);simp-dsimp-implicitDefEqProofs (maxSteps:=800000) (disch:=omega)only[go_sem,prs,ints,rows,cubes,gd_i,gd_r,gd_c,one_hq];refine hN _ ?_;try clear hN N
 refine AW.seq (fun N2 hN2=>?_);refine AW.sr envOk (fun N hN=>?_);simp-dsimp-implicitDefEqProofs (maxSteps:=800000) (disch:=omega)only[go_sem,prs,ints,rows,cubes,gd_i,gd_r,gd_c,one_hq];refine hN _ ?_;try clear hN N
 refine AW.block ?_;refine AW.loopN (α:=Nat×Option Nat×List AV×HP) (fun x=>sl 78 [(1,.p 0 [ints os,rows pw,cubes cj]),(4,oA x.2.1 x.2.2.1.length),(16,ints os),(17,.i .i64 os.length),(18,.i .i64 x.1)]) (fun x=>oH x.2.2.2 x.2.1 x.2.2.1) (fun x m=>(x.1≤os.length∧nx≤m)∧OutB nx m x.2.1 x.2.2.1 x.2.2.2 (relsA os pw x.1)) (fun x=>os.length-x.1) ((0,none,[],noH)) ?_ ?_ (by intro d cs hd;cases hd) ?_
 ·exact⟨⟨by omega,by first|omega|(simp only;omega)|(dsimp only;omega)⟩,OutB.start⟩
 ·simp[wks,wkA,sl,ints,rows,cubes,oA]
 skip
 rintro⟨k,o,rw,Hx⟩ m ⟨⟨hk,hm⟩,hB⟩
 dsimp only at hk hm hB ⊢
 refine AW.sr envOk (fun N hN=>?_);simp-dsimp-implicitDefEqProofs (maxSteps:=800000) (disch:=omega)only[go_sem,prs,ints,rows,cubes,gd_i,gd_r,gd_c,one_hq];refine hN _ ?_;try clear hN N
 refine AW.seq (fun N3 hN3=>?_);refine AW.cond rfl (fun h2=>?_) (fun h2=>?_)
 ·try simp only[cn]at h2
  have hko:=h.pw (i:=k) (by omega)
  have hok:=pr4_bd (h.2.1 k (by omega))
  have hwl:(invW (wdN (pw.getD k []) (pw.getD k []).length)).length≤6000:=by rw[invW_len];exact hko.len
  have hlen:=hB.len
  rw[relsA_len]at hlen
  obtain⟨q0,hq0⟩:∃q0:Nat,os.getD k 0=q0:=⟨(os.getD k 0).toNat,by omega⟩
  have hrow:List.map (AV.i .i64) (List.replicate q0 ((k:Int)+1))++List.map (AV.i .i64) (invW (wdN (pw.getD k []) (pw.getD k []).length))=(relA os pw k).map (AV.i .i64):=by
   rw[←List.map_append];unfold relA;rw[hq0];rfl
  have hrl:q0+(invW (wdN (pw.getD k []) (pw.getD k []).length)).length=(relA os pw k).length:=by
   unfold relA;rw[List.length_append,List.length_replicate,hq0];rfl
  obtain⟨o2,ho⟩:∃o2,o2=o:=⟨_,rfl⟩
  rcases o with _|q
  all_goals
   refine AW.skip ?_;simp only[thn,blk];refine hN3 _ ?_;try clear hN3 N3
   refine AW.seq (fun N4 hN4=>?_);refine AW.block ?_;refine AW.sr envOk (fun N hN=>?_);simp-dsimp-implicitDefEqProofs (maxSteps:=800000) (disch:=omega)only[go_sem,prs,ints,rows,cubes,gd_i,gd_r,gd_c,one_hq];refine hN _ ?_;try clear hN N
   dsimp only[oA,oH]
   first|have hrw:rw=[]:=hB.no rfl|have hrw:True:=trivial
   (try (obtain⟨i2,i3⟩:=hB.id rfl))
   refine AW.drawF envOk (by kernel_rfl) [true,true,true,false,true,false,true,true,true,true,true,false,false,false,false,false,false] (by kernel_rfl) ?_
   simp-dsimp-implicitDefEqProofs (maxSteps:=800000) (disch:=omega)only[go_sem,prs,ints,rows,cubes,gd_i,gd_r,gd_c,one_hq,hq0];refine AC.own (slices_Repeat_ok ((k:Int)+1) q0 (by omega) (by omega)) (.cons (Vw.ivl (upd_same _ _ _) rfl) (.cons (.refl _) .nil)) ?_
   intro m1 H1 r0 ids1 hm1 hH1 hown0
   obtain⟨rid,rfl,g1,g2,g3⟩:=hown0.posI (by rw[List.length_replicate];omega)
   rw[List.length_replicate]
   first|have hc3:H1 q=some rw:=(hH1 _ (by omega)).trans ((upd_ne _ _ (by omega)).trans (upd_same _ _ _))|have hc3:True:=trivial
   have hz:H1 (m+1+5+14)=none:=by
    rw[hH1 _ (by omega),upd_ne _ _ (by omega)]
    first|exact hB.dom _ (by omega)|exact(upd_ne _ _ (by omega)).trans (hB.dom _ (by omega))
   try simp-dsimp-implicitDefEqProofs (maxSteps:=800000) (disch:=omega)only[go_sem,g1,hc3,rows,cubes,ints,prs,gd_r]
   refine AC.pure (.of (impl_normalWord_ok (pw.getD k []) (by have:=hko.n;omega) hko.v)) ?_
   try simp-dsimp-implicitDefEqProofs (maxSteps:=800000) (disch:=omega)only[go_sem,g1,hc3,rows,cubes,ints,prs,gd_r]
   refine AC.pure (.of (impl_invertWord_ok (wdN (pw.getD k []) (pw.getD k []).length) (by have:=hko.len;unfold nwd at this;omega) hko.bd)) ?_
   try simp-dsimp-implicitDefEqProofs (maxSteps:=800000) (disch:=omega)only[go_sem,g1,hc3,tk_rep,hrow,one_hq,List.length_append,List.length_replicate,rows,cubes,ints,prs,gd_r]
   refine hN4 _ ?_;try clear hN4 N4
   refine AW.regionL envOk ?_;simp-dsimp-implicitDefEqProofs (maxSteps:=800000) (disch:=omega)only[go_sem,prs,ints,rows,cubes,gd_i,gd_r,gd_c,one_hq];refine⟨(k+1,some (m+1+5+15),rw++[.h (m+1+5+13) 0 (q0+(invW (wdN (pw.getD k []) (pw.getD k []).length)).length)],upd (lim m1 (upd (oN H1 o2) rid none)) (m+1+5+13) (some (List.map (AV.i .i64) (relA os pw k)))),?_,by subst ho;intro d cs hd;dsimp only[oH,oN]at hd;simp only[upd,lim,List.take_length,hrw,List.nil_append]at hd ⊢;grind,?_,?_⟩
   ·simp(disch:=omega) [wks,wkA,sl,w64,ints,rows,cubes,oA,hrw]<;>omega
   ·dsimp only
    rw[relsA_s]
    refine⟨⟨by omega,by omega⟩,hB.app (H1:=H1) (fun i q1=>(hH1 i (by omega)).trans (upd_ne _ _ (by omega))) (fun i q1 q2=>?_) (upd_same _ _ _) (fun i hi=>?_) hrl (by omega) (by omega) (by omega) hm⟩
    ·rw[upd_ne _ _ (by omega),lim,if_pos (by omega),upd_ne _ _ (by omega)]
     subst ho
     first|rfl|exact upd_ne _ _ (fun e=>q2 (by rw[e]))
    rw[upd_ne _ _ (by omega),lim,if_neg (by omega)]
   first|omega|(simp only;omega)
 try simp only[cn]at h2
 refine AW.exit ?_;simp only[thn,blk,if_true];refine hN2 _ ?_;try clear hN2 N2
 refine AW.seq (fun N5 hN5=>?_);refine AW.sr envOk (fun N hN=>?_);simp-dsimp-implicitDefEqProofs (maxSteps:=800000) (disch:=omega)only[go_sem,prs,ints,rows,cubes,gd_i,gd_r,gd_c,one_hq];refine hN _ ?_;try clear hN N
 refine AW.block ?_;refine AW.loopN (α:=Nat×Option Nat×List AV×HP) (fun x=>sl 78 [(1,.p 0 [ints os,rows pw,cubes cj]),(4,oA x.2.1 x.2.2.1.length),(42,.i .i64 os.length),(43,.i .i64 x.1)]) (fun x=>oH x.2.2.2 x.2.1 x.2.2.1) (fun x m=>(x.1≤os.length∧nx≤m)∧OutB nx m x.2.1 x.2.2.1 x.2.2.2 (relsA os pw os.length++relsC cj os.length x.1)) (fun x=>os.length-x.1) ((0,o,rw,Hx)) ?_ ?_ (by exact Le.refl _) ?_
 ·exact⟨⟨by omega,by first|omega|(simp only;omega)|(dsimp only;omega)⟩,by dsimp only[relsC];rw[List.append_nil,←show k=os.length by omega];exact hB.more (by first|omega|(simp only;omega)|(dsimp only;omega))⟩
 ·simp[wks,wkA,sl,ints,rows,cubes,oA]
 skip
 rintro⟨i,o2,rw2,Hy⟩ m2 ⟨⟨hi,hm2⟩,hB2⟩
 dsimp only at hi hm2 hB2 ⊢
 refine AW.sr envOk (fun N hN=>?_);simp-dsimp-implicitDefEqProofs (maxSteps:=800000) (disch:=omega)only[go_sem,prs,ints,rows,cubes,gd_i,gd_r,gd_c,one_hq];refine hN _ ?_;try clear hN N
 refine AW.seq (fun N6 hN6=>?_);refine AW.cond rfl (fun h3=>?_) (fun h3=>?_)
 ·try simp only[cn]at h3
  have hci:=h.cj (i:=i) (by omega)
  have hcl2:=relsC_len (cj:=cj) (n:=os.length) i (by omega)
  have hcl3:os.length*i≤6*6:=Nat.mul_le_mul hn6 (by omega)
  refine AW.skip ?_;simp only[thn,blk];refine hN6 _ ?_;try clear hN6 N6
  refine AW.seq (fun N7 hN7=>?_);refine AW.block ?_;refine AW.sr envOk (fun N hN=>?_);simp-dsimp-implicitDefEqProofs (maxSteps:=800000) (disch:=omega)only[go_sem,prs,ints,rows,cubes,gd_i,gd_r,gd_c,one_hq];refine hN _ ?_;try clear hN N
  refine AW.sr envOk (fun N hN=>?_);simp-dsimp-implicitDefEqProofs (maxSteps:=800000) (disch:=omega)only[go_sem,prs,ints,rows,cubes,gd_i,gd_r,gd_c,one_hq];refine hN _ ?_;try clear hN N
  refine AW.block ?_;refine AW.loopN (α:=Nat×Option Nat×List AV×HP) (fun x=>sl 78 [(1,.p 0 [ints os,rows pw,cubes cj]),(4,oA x.2.1 x.2.2.1.length),(7,.i .i64 i),(42,.i .i64 os.length),(43,.i .i64 i),(50,rows (cj.getD i [])),(51,.i .i64 (cj.getD i []).length),(52,.i .i64 x.1)]) (fun x=>oH x.2.2.2 x.2.1 x.2.2.1) (fun x m=>(x.1≤(cj.getD i []).length∧nx≤m)∧OutB nx m x.2.1 x.2.2.1 x.2.2.2 (relsA os pw os.length++relsC cj os.length i++relsB cj i x.1)) (fun x=>(cj.getD i []).length-x.1) ((0,o2,rw2,Hy)) ?_ ?_ (by exact Le.refl _) ?_
  ·exact⟨⟨by omega,by first|omega|(simp only;omega)|(dsimp only;omega)⟩,by dsimp only;rw[show relsB cj i 0=[]from rfl,List.append_nil];exact hB2.more (by first|omega|(simp only;omega)|(dsimp only;omega))⟩
  ·simp[wks,wkA,sl,ints,rows,cubes,oA]
  skip
  rintro⟨d,o3,rw3,Hz⟩ m3 ⟨⟨hd,hm3⟩,hB3⟩
  dsimp only at hd hm3 hB3 ⊢
  refine AW.sr envOk (fun N hN=>?_);simp-dsimp-implicitDefEqProofs (maxSteps:=800000) (disch:=omega)only[go_sem,prs,ints,rows,cubes,gd_i,gd_r,gd_c,one_hq];refine hN _ ?_;try clear hN N
  refine AW.seq (fun N8 hN8=>?_);refine AW.cond rfl (fun h4=>?_) (fun h4=>?_)
  ·try simp only[cn]at h4
   have hko:=hci.2 d (by omega)
   have hwl:(invW (wdN ((cj.getD i []).getD d []) ((cj.getD i []).getD d []).length)).length≤6000:=by rw[invW_len];exact hko.len
   have hlen:=hB3.len
   rw[List.length_append,List.length_append,relsA_len,relsB_len]at hlen
   have hrow:AV.i .i64 (0-((i:Int)+1))::AV.i .i64 ((i:Int)+d+2)::AV.i .i64 ((i:Int)+1)::List.map (AV.i .i64) (invW (wdN ((cj.getD i []).getD d []) ((cj.getD i []).getD d []).length))=(relB cj i d).map (AV.i .i64):=by
    simp only[relB,nwd,List.map_append,List.map_cons,List.map_nil,List.cons_append,List.nil_append]
    rw[show(0-((i:Int)+1))= -(i:Int)-1 by omega,show(i:Int)+d+2=((i+1+d:Nat):Int)+1 by omega]
   have hrl:3+(invW (wdN ((cj.getD i []).getD d []) ((cj.getD i []).getD d []).length)).length=(relB cj i d).length:=by
    unfold relB nwd;rw[List.length_append];rfl
   have hz1:Hz (m3+1+5+8+10)=none:=hB3.dom _ (by omega)
   have hz2:Hz (m3+1+5+8+5)=none:=hB3.dom _ (by omega)
   obtain⟨o4,ho⟩:∃o4,o4=o3:=⟨_,rfl⟩
   rcases o3 with _|q
   all_goals
    refine AW.skip ?_;simp only[thn,blk];refine hN8 _ ?_;try clear hN8 N8
    refine AW.seq (fun N9 hN9=>?_);refine AW.block ?_;dsimp only[oA,oH]
    first|have hrw:rw3=[]:=hB3.no rfl|have hrw:True:=trivial
    (try (obtain⟨i2,i3⟩:=hB3.id rfl))
    refine AW.sr envOk (fun N hN=>?_);simp-dsimp-implicitDefEqProofs (maxSteps:=800000) (disch:=omega)only[go_sem,prs,ints,rows,cubes,gd_i,gd_r,gd_c,one_hq];refine hN _ ?_;try clear hN N
    refine AW.sr envOk (fun N hN=>?_);simp-dsimp-implicitDefEqProofs (maxSteps:=800000) (disch:=omega)only[go_sem,prs,ints,rows,cubes,gd_i,gd_r,gd_c,one_hq];refine hN _ ?_;try clear hN N
    refine AW.regionL envOk ?_;simp-dsimp-implicitDefEqProofs (maxSteps:=800000) (disch:=omega)only[go_sem,prs,ints,rows,cubes,gd_i,gd_r,gd_c,one_hq,hrow];refine AC.pure (.of (impl_normalWord_ok ((cj.getD i []).getD d []) (by have:=hko.n;omega) hko.v)) ?_
    try simp-dsimp-implicitDefEqProofs (maxSteps:=800000) (disch:=omega)only[go_sem,prs,ints,rows,cubes,gd_i,gd_r,gd_c,one_hq]
    refine AC.pure (.of (impl_invertWord_ok (wdN ((cj.getD i []).getD d []) ((cj.getD i []).getD d []).length) (by have:=hko.len;unfold nwd at this;omega) hko.bd)) ?_
    try simp-dsimp-implicitDefEqProofs (maxSteps:=800000) (disch:=omega)only[go_sem,prs,ints,rows,cubes,gd_i,gd_r,gd_c,one_hq]
    refine hN9 _ ?_;try clear hN9 N9
    refine AW.regionL envOk ?_;simp-dsimp-implicitDefEqProofs (maxSteps:=800000) (disch:=omega)only[go_sem,prs,ints,rows,cubes,gd_i,gd_r,gd_c,one_hq];refine⟨(d+1,some (m3+1+5+8+11),rw3++[.h (m3+1+5+8+9) 0 (3+(invW (wdN ((cj.getD i []).getD d []) ((cj.getD i []).getD d []).length)).length)],upd (oN Hz o4) (m3+1+5+8+9) (some (List.map (AV.i .i64) (relB cj i d)))),?_,by subst ho;intro d cs hd;dsimp only[oH,oN]at hd;simp only[upd,List.take_length,hrw,List.nil_append]at hd ⊢;grind,?_,?_⟩
    ·simp(disch:=omega) [wks,wkA,sl,w64,ints,rows,cubes,oA,hrw]<;>omega
    ·dsimp only
     rw[relsB_s,←List.append_assoc]
     refine⟨⟨by omega,by omega⟩,hB3.app (H1:=oH Hz _ rw3) (fun i q1=>rfl) (fun i q1 q2=>?_) (upd_same _ _ _) (fun i hi=>?_) hrl (by omega) (by omega) (by omega) hm3⟩
     ·rw[upd_ne _ _ (by omega)]
      subst ho
      first|rfl|exact(upd_ne _ _ (fun e=>q2 (by rw[e]))).trans (upd_ne _ _ (fun e=>q2 (by rw[e]))).symm
     rw[upd_ne _ _ (by omega)]
     subst ho
     first|exact hB3.dom i (by omega)|exact(upd_ne _ _ (by omega)).trans (hB3.dom i (by omega))
    first|omega|(simp only;omega)
  try simp only[cn]at h4
  refine AW.exit ?_;simp only[thn,blk,if_true];refine hN7 _ ?_;try clear hN7 N7
  refine AW.regionL envOk ?_;simp-dsimp-implicitDefEqProofs (maxSteps:=800000) (disch:=omega)only[go_sem,prs,ints,rows,cubes,gd_i,gd_r,gd_c,one_hq];have e3:relsC cj os.length (i+1)=relsC cj os.length i++relsB cj i d:=by rw[relsC,show os.length-1-i=d by omega]
  refine⟨(i+1,o3,rw3,Hz),?_,fun _ _ h=>h,?_,?_⟩
  ·simp(disch:=omega) [wks,wkA,sl,w64,ints,rows,cubes,oA]<;>omega
  ·exact⟨⟨by omega,by first|omega|(simp only;omega)|(dsimp only;omega)⟩,by dsimp only;rw[e3,←List.append_assoc];exact hB3.more (by first|omega|(simp only;omega)|(dsimp only;omega))⟩
  first|omega|(simp only;omega)
 try simp only[cn]at h3
 refine AW.exit ?_;simp only[thn,blk,if_true];refine hN5 _ ?_;try clear hN5 N5
 refine AW.sr envOk (fun N hN=>?_);simp-dsimp-implicitDefEqProofs (maxSteps:=800000) (disch:=omega)only[go_sem,prs,ints,rows,cubes,gd_i,gd_r,gd_c,one_hq];refine hN _ ?_;try clear hN N
 refine AW.ret ?_;simp-dsimp-implicitDefEqProofs (maxSteps:=800000) (disch:=omega)only[go_sem];obtain rfl:i=os.length:=by omega
 rw[tf_t h]
 rcases o2 with _|q
 ·exact(hB2.nil (a:=nx) (b:=m2+1+3) (H':=Hy)).pair
 obtain⟨ids,hown⟩:=hB2.own
 exact(hown.keep (fun i q1 q2=>rfl) (a':=nx) (b':=m2+1+3) (by omega) (by omega)).pair
theorem impl_FpOfPresentation_ok (os:List Int) (pw:List (List Int)) (cj:List (List (List Int))) (hl:prlen os pw cj):ACo Tryz.prog 12 [prs os pw cj] (resF (fpoM (tf (presOk os pw cj)) os pw cj)):=by
 have hlo:=hl.o
 intro nx
 refine AC.intro' envOk Tryz.func12 rfl (by kernel_rfl) Tryz.ntmps12 Tryz.results12 (fun cX=>?_)
 refine AW.sr envOk (fun N hN=>?_);simp-dsimp-implicitDefEqProofs (maxSteps:=800000) (disch:=omega)only[go_sem,prs,ints];refine hN _ ?_;try clear hN N
 refine AW.freezeQ 1 nx _ rfl ((upd_ne _ _ (by omega)).trans (upd_same _ _ _)) ?_
 simp-dsimp-implicitDefEqProofs (maxSteps:=800000) (disch:=omega)only[go_sem];refine AW.sr envOk (fun N hN=>?_);simp-dsimp-implicitDefEqProofs (maxSteps:=800000) (disch:=omega)only[go_sem,prs,ints];have hx:=impl_PresentationRelators_ok os pw cj hl
 rw[resP_eq]at hx
 refine AC.own hx (.cons (.refl _) .nil) ?_
 intro m1 H1 r0 ids1 hm1 hH1 hown0
 obtain⟨r1,rfl,hown1⟩:=hown0.1.pair_inv
 obtain⟨q1,q2,q3⟩:=hown1.slice
 have hr1:=one_list q2
 have hc2:H1 (nx+1)=some [.i .i64 0,.nl]:=by rw[hH1 _ (by omega)];simp(disch:=omega)only[upd_ne,upd_same]
 try simp-dsimp-implicitDefEqProofs (maxSteps:=800000) (disch:=omega)only[go_sem,q1,q2,q3,hr1]
 refine hN _ ?_;try clear hN N
 refine AW.seq (fun N1 hN1=>?_);refine AW.sr envOk (fun N hN=>?_);simp-dsimp-implicitDefEqProofs (maxSteps:=800000) (disch:=omega)only[go_sem,prs,ints];refine hN _ ?_;try clear hN N
 refine AW.cond rfl (fun h1=>?_) (fun h1=>?_)
 ·try simp only[cn]at h1
  refine AW.sr envOk (fun N hN=>?_);simp-dsimp-implicitDefEqProofs (maxSteps:=800000) (disch:=omega)only[go_sem,prs,ints,q1,q2,q3,hr1,hc2];refine hN _ ?_;try clear hN N
  refine AW.ret ?_;simp-dsimp-implicitDefEqProofs (maxSteps:=800000) (disch:=omega)only[go_sem];rcases Classical.em (presOk os pw cj)with hp|hp
  ·rw[tf_t hp]at h1;exact absurd rfl h1
  rw[tf_f hp];exact Own.nilF
 try simp only[cn]at h1
 have hp:presOk os pw cj:=by
  apply Classical.byContradiction
  intro hp
  rw[tf_f hp]at h1;cases h1
 refine AW.skip ?_;simp only[thn,blk];refine hN1 _ ?_;try clear hN1 N1
 refine AW.seq (fun N2 hN2=>?_);refine AW.sr envOk (fun N hN=>?_);simp-dsimp-implicitDefEqProofs (maxSteps:=800000) (disch:=omega)only[go_sem,prs,ints];refine hN _ ?_;try clear hN N
 refine AW.cond rfl (fun h2=>?_) (fun h2=>?_)
 ·try simp only[cn]at h2
  refine AW.sr envOk (fun N hN=>?_);simp-dsimp-implicitDefEqProofs (maxSteps:=800000) (disch:=omega)only[go_sem,prs,ints,q1,q2,q3,hr1,hc2];refine hN _ ?_;try clear hN N
  refine AW.ret ?_;simp-dsimp-implicitDefEqProofs (maxSteps:=800000) (disch:=omega)only[go_sem];rw[tf_t hp,fpoM,if_pos h2]
  exact Own.nilF
 try simp only[cn]at h2
 refine AW.skip ?_;simp only[thn,blk];refine hN2 _ ?_;try clear hN2 N2
 refine AW.sr envOk (fun N hN=>?_);simp-dsimp-implicitDefEqProofs (maxSteps:=800000) (disch:=omega)only[go_sem,prs,ints,q1,q2,q3,hr1,hc2];refine hN _ ?_;try clear hN N
 refine AW.ret ?_;simp-dsimp-implicitDefEqProofs (maxSteps:=800000) (disch:=omega)only[go_sem];rw[tf_t hp,fpoM,if_neg (by omega)]
 rw[tf_t hp]at hown1 hown0
 have ho:Own (nx+3+7) m1 H1 r1 (rows (rels os pw cj)) ids1:=⟨hown1,hown0.2⟩
 obtain⟨ids,h⟩:=Own.fp (g:=os.length) (ho.keep (H':=upd H1 (nx+1) (some [AV.i IntKind.i64 os.length,r1])) (fun i q1 q2=>upd_ne _ _ (by omega)) (a':=nx) (b':=m1+2+4+7) (by omega) (by omega))
 exact h.pair
end Go.Proofs.YtghmeeifjeafmaaGreat
