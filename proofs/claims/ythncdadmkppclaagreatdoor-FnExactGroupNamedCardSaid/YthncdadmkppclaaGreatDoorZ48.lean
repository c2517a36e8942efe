import Derived.Test.YthncdadmkppclaaGreatDoorZ18
import Derived.Test.YthncdadmkppclaaGreatDoorZ20
import Derived.Test.YthncdadmkppclaaGreatDoorZ34
import Derived.Test.YthncdadmkppclaaGreatDoorZ47
set_option linter.unusedVariables false
set_option linter.unusedSimpArgs false
namespace Go.Proofs.YthncdadmkppclaaGreatDoor
open Nat (reduceAdd reduceSub reduceGT reduceEqDiff reduceMul)
theorem Ow.prs_inv {H:HP} {r:AV} {os:List Int} {pw:List (List Int)} {cj:List (List (List Int))} {ids:List Nat} (h:Ow H r (Go.Proofs.YthncdadmkppclaaGreatDoor.prs os pw cj) ids):
    ∃r1 r2 r3 is js ks,r= .g [r1,r2,r3]∧ids=is++(js++ks)∧Ow H r1 (Go.Proofs.YthncdadmkppclaaGreatDoor.ints os) is∧Ow H r2 (rows pw) js∧Ow H r3 (cubes cj) ks:=by
  unfold Go.Proofs.YthncdadmkppclaaGreatDoor.prs at h
  generalize hX:AV.g [Go.Proofs.YthncdadmkppclaaGreatDoor.ints os,rows pw,cubes cj]=X at h
  cases h with
  | leaf _ hf hn=>
    subst hX
    cases hf with|g _ hf=>cases hn with|g _ hn=>exact⟨Go.Proofs.YthncdadmkppclaaGreatDoor.ints os,rows pw,cubes cj,[],[],[],rfl,rfl,.leaf _ (hf 0 _ rfl) (hn 0 _ rfl),.leaf _ (hf 1 _ rfl) (hn 1 _ rfl),.leaf _ (hf 2 _ rfl) (hn 2 _ rfl)⟩
  |nl=>cases hX
  |h id cs ts ids' h1 h2=>cases hX
  |q id cs ts ids' h1 h2=>cases hX
  | g cs ts ids' h2=>
    cases hX
    cases h2 with|cons x0 _ xs _ i0 j0 g1 g2=>cases g2 with|cons x1 _ xs _ i1 j1 g3 g4=>cases g4 with|cons x2 _ xs _ i2 j2 g5 g6=>
      cases g6
      exact⟨x0,x1,x2,i0,i1,i2,rfl,by simp,g1,g3,g5⟩
  |t cs ts ids' h2=>cases hX
theorem Hold.prs {H:HP} {lo hi:Nat} {r:AV} {os:List Int} {pw:List (List Int)} {cj:List (List (List Int))} (h:Hold H lo hi r (Go.Proofs.YthncdadmkppclaaGreatDoor.prs os pw cj)):
    ∃r1 r2 r3,r= .g [r1,r2,r3]∧(one r1=true∧one r2=true∧one r3=true)∧Hold H lo hi (.g [r1,r2,r3]) (Go.Proofs.YthncdadmkppclaaGreatDoor.prs os pw cj):=by
  obtain⟨ids,h1,h2,h3⟩:=h
  obtain⟨r1,r2,r3,is,js,ks,rfl,_,h4,h5,h6⟩:=h1.prs_inv
  exact⟨r1,r2,r3,rfl,⟨one_ow h4,one_ow h5,one_ow h6⟩,ids,h1,h2,h3⟩
open Nat (reduceAdd reduceSub reduceGT reduceEqDiff reduceMul)
noncomputable def pdT (k:Nat):PD:=(ppS (tL k)).getD ([],[],[])
theorem ppI_len:((List.range 82).map fun k=>decide ((Lib.split (tL k) [59,32]).length≤1000))=List.replicate 82 true:=by kernel_rfl
theorem at82 {f:Nat→Bool} (h:(List.range 82).map f=List.replicate 82 true) {k:Nat} (hk:k<82):f k=true:=by
  have h2:((List.range 82).map f)[k]? =(List.replicate 82 true)[k]? :=by rw[h]
  rw[List.getElem?_map,List.getElem?_range hk,List.getElem?_replicate,if_pos hk]at h2
  simpa using h2
theorem tL_ofL (k:Nat):ofL (tL k)=(trow k).2.2:=ofL_to _
theorem pdT_at {k:Nat} (hk:k<82):ppS (tL k)=some (pdT k)∧ppI (tL k)=some (pdT k)∧(tL k).length≤100∧(Lib.split (tL k) [59,32]).length≤1000:=by
  have h1:=at82 ppS_all hk
  have h2:=at82 ppI_all hk
  have h3:=at82 ppI_len hk
  simp only[Bool.and_eq_true,decide_eq_true_eq]at h1 h2 h3
  have h4:ppS (tL k)=some (pdT k):=by
    obtain⟨x,hx⟩:=Option.isSome_iff_exists.1 h1.1
    rw[pdT,hx];rfl
  exact⟨h4,h2.trans h4,h1.2,h3⟩
theorem ppS_ok {l:List UInt8} {s2:PD} (h:ppS l=some s2):presOk s2.1 s2.2.1 s2.2.2∧txC s2.1 s2.2.1 s2.2.2=l:=by
  unfold ppS at h
  split at h
  · cases h
  · obtain⟨os,hos,h⟩:=Option.bind_eq_some_iff.1 h
    obtain⟨s,hst,h⟩:=Option.bind_eq_some_iff.1 h
    split at h
    · rename_i hc
      cases h
      exact⟨presC_ok hc.1,hc.2⟩
    · cases h
theorem spec_ParsePresentation_at {k:Nat} (hk:k<82):ACp Tryz.prog 13 [.s (trow k).2.2] (.t [prs (pdT k).1 (pdT k).2.1 (pdT k).2.2,.i .i64 0]):=by
  obtain⟨h1,_,h2,_⟩:=pdT_at hk
  rw[←tL_ofL]
  exact spec_ParsePresentation_ok (tL k) (pdT k) (by omega) h1
theorem ppI_49 {l:List UInt8} {s2:PD} (h:ppI l=some s2) (hh:(Lib.split l [59,32]).head? =some [49]):l=[49]∧s2=([],[],[]):=by
  unfold ppI at h
  split at h
  case isFalse=>cases h
  generalize Lib.split l [59,32]=ps0 at h hh
  rcases ps0 with _|⟨hd,ps⟩
  · cases hh
  simp only[List.head?_cons,Option.some.injEq]at h hh
  subst hh
  obtain⟨os,hos,h4⟩:=Option.bind_eq_some_iff.1 h
  have h0:os=[]:=by rw[ordC,if_pos rfl]at hos;cases hos;rfl
  subst h0
  obtain⟨s,hst,h5⟩:=Option.bind_eq_some_iff.1 h4
  clear h h4
  split at h5
  · rename_i hc
    cases h5
    have hps:ps=[]:=by
      rcases ps with _|⟨p,ps⟩
      · rfl
      · obtain⟨u,hu⟩:=stI_mono (ps:=p::ps) ps.length 1 (t:=s2) (by rw[Nat.add_comm];exact hst)
        exfalso
        obtain⟨t,ht,hu⟩:=Option.bind_eq_some_iff.1 hu
        cases ht
        obtain⟨x,y,r,w,i,_,_,_,_,hi,_⟩:=relI_at hu
        simp at hi
    subst hps
    cases hst
    have h2:[49]=l:=hc.2
    exact⟨h2.symm,rfl⟩
  · cases h5
theorem impl_readPresentation_at {k:Nat} (hk:k<82):ACow 2 Tryz.prog 38 [.s (trow k).2.2] (.t [prs (pdT k).1 (pdT k).2.1 (pdT k).2.2,.b true]):=by
  obtain⟨_,h1,h2,h3⟩:=pdT_at hk
  rw[←tL_ofL]
  by_cases hh:(Lib.split (tL k) [59,32]).head? =some [49]
  · obtain⟨e1,e2⟩:=ppI_49 h1 hh
    rw[e1,e2]
    exact impl_readPresentation_z
  · exact impl_readPresentation_p (tL k) (pdT k) (by omega) h1 hh h3
theorem ACw.hold {g:Nat} {P:Program} {f:FuncId} {nx:Nat} {H:HP} {xs ts:List AV} {X:AV} {K:Nat→HP→AV→Prop} (h:ACow g P f ts X) (hv:Vws H xs ts)
    (hk:∀nx' H' r,nx≤nx'→(∀i,i<nx→H' i=H i)→Hold H' nx nx' r X→K nx' H' r):ACw g P f nx H xs K:=
  ACw.own h hv (fun nx' H' r ids h1 h2 h3=>hk nx' H' r h1 h2 ⟨ids,h3⟩)
theorem Ow.pairB_inv {H:HP} {r X:AV} {e:Bool} {ids:List Nat} (h:Ow H r (.t [X,.b e]) ids):∃r1,r= .t [r1,.b e]∧Ow H r1 X ids:=by
  generalize hX:AV.t [X,AV.b e]=Y at h
  cases h with
  | leaf _ hf hn=>
    subst hX
    cases hf with|t _ hf=>cases hn with|t _ hn=>exact⟨X,rfl,.leaf _ (hf 0 _ rfl) (hn 0 _ rfl)⟩
  |nl=>cases hX
  |h id cs ts ids' h1 h2=>cases hX
  |q id cs ts ids' h1 h2=>cases hX
  |g cs ts ids' h2=>cases hX
  | t cs ts ids' h2=>
    cases hX
    cases h2 with|cons x0 _ xs _ i0 j0 g1 g2=>cases g2 with|cons x1 _ xs _ i1 j1 g3 g4=>
      cases g4
      cases g3 with|leaf _ _ _=>exact⟨x0,rfl,by simpa using g1⟩
theorem Hold.pairB {H:HP} {lo hi:Nat} {r X:AV} {e:Bool} (h:Hold H lo hi r (.t [X,.b e])):∃r1,r= .t [r1,.b e]∧Hold H lo hi r1 X:=by
  obtain⟨ids,h1,h2,h3⟩:=h
  obtain⟨r1,h4,h5⟩:=h1.pairB_inv
  exact⟨r1,h4,ids,h5,h2,h3⟩
set_option maxHeartbeats 2000000 in
theorem impl_presentation_m (a b:Int) (s:ByteArray) {k:Nat} (hk:k<82):ACow 2 Tryz.prog 15 [.g [.i .i64 a,.i .i64 b,.s s,.s (trow k).2.2]] (prs (pdT k).1 (pdT k).2.1 (pdT k).2.2):=by
 intro nx
 refine ACw.intro envOk Tryz.func15 rfl (by kernel_rfl) Tryz.ntmps15 Tryz.results15 (fun cX hcg _ _=> ?_)
 refine AW.sr envOk (fun N hN=> ?_)
 simp-dsimp-implicitDefEqProofs (disch:=omega) only[go_sem,undef,w64,arr4,one4t]
 refine hN _ ?_
 try clear hN N
 refine AW.seq (fun N hN=> ?_)
 refine AW.regionX envOk 2 _ rfl rfl ?_
 simp-dsimp-implicitDefEqProofs (disch:=omega) only[List.take_succ_cons,List.take_zero,List.drop_succ_cons,List.drop_zero,List.take_nil,List.drop_nil,go_sem,undef,w64,arr4,one4t]
 refine XC.callw hcg rfl ?_
 refine ACw.hold (impl_readPresentation_at hk) (.cons (.refl _) .nil) ?_
 intro m3 H3 r3 hm3 hH3 ho
 obtain⟨r4,rfl,ho4⟩:=ho.pairB
 obtain⟨r0,P,B,rfl,⟨v1,v2,v3⟩,ho5⟩:=ho4.prs
 dsimp only at hm3 hH3 ho5
 have h31:H3 (nx+1)=some [.nl,.nl,.nl]:=(hH3 _ (by omega)).trans (upd_same _ _ _)
 clear ho ho4 hH3
 try simp-dsimp-implicitDefEqProofs (disch:=omega) only[go_sem,undef,w64,v1,v2,v3,Bool.and_true]
 refine hN _ ?_
 try clear hN N
 refine AW.sr envOk (fun N hN=> ?_)
 simp-dsimp-implicitDefEqProofs (disch:=omega) only[go_sem,undef,w64,arr4,one4t,v1,v2,v3,Bool.and_true,h31]
 refine hN _ ?_
 try clear hN N
 refine AW.ret ?_
 simp-dsimp-implicitDefEqProofs (disch:=omega) only[go_sem,undef]
 obtain⟨ids,h1,h2,h3⟩:=ho5
 have hk2:=h1.keep (H':=upd (upd H3 (nx+2+6) (some [r0,P,B])) (nx+1) (some [r0,P,B])) (fun i hi=>by have:=h3 i hi;rw[upd_ne _ _ (by omega),upd_ne _ _ (by omega)])
 exact⟨ids,hk2,h2,fun i hi=>by have:=h3 i hi;omega⟩
noncomputable def fP (o i:Int):PD:=if fdE o i=0 then pdT (fdK o i)else ([],[],[])
theorem fdK_lt {o i:Int} (h:fdE o i=0):fdK o i<82:=by
  unfold fdE at h
  split at h
  · rename_i h1;exact absurd h h1
  · rename_i h1
    split at h
    · rename_i h2
      have h3:=gerr_ok (by simpa using h1)
      have h4:i.toNat<(gsel o).length:=by omega
      have h5:fdK o i∈gsel o:=by rw[fdK,List.getD_eq_getElem?_getD,List.getElem?_eq_getElem h4];exact List.getElem_mem _
      rw[h3.1]at h5
      exact(sel_lt o 82 _ h5).1
    · cases h
theorem prs_z {H:HP}:Ow H (.g [.nl,.nl,.nl]) (prs [] [] []) []:= .g _ _ _ (.cons _ _ _ _ _ _ .nl (.cons _ _ _ _ _ _ .nl (.cons _ _ _ _ _ _ .nl .nil)))
theorem vw_pr {H:HP} {r X:AV} {k:IntKind} {e:Int} (h:Vw H r X):Vw H (.t [r,.i k e]) (.t [X,.i k e]):= .t _ _ rfl fun q x y h1 h2=>by
  match q,h1,h2 with
  |0,h1,h2=>cases h1;cases h2;exact h
  |1,h1,h2=>cases h1;cases h2;exact .refl _
theorem Own.pairO {a b:Nat} {H:HP} {r X:AV} {ids:List Nat} {k:IntKind} {e:Int} (h:Own a b H r X ids):Own a b H (.t [r,.i k e]) (.t [X,.i k e]) (ids++([]++[])):=
  ⟨.t _ _ _ (.cons _ _ _ _ _ _ h.1 (.cons _ _ _ _ _ _ (.leaf _ (.i _ _) (.i _ _)) .nil)),by simpa using h.2.1,by simpa using h.2.2⟩
theorem spec_ListedGroup_ok (o i:Int):ACp Tryz.prog 5 [.i .i64 o,.i .i64 i] (.t [prs (fP o i).1 (fP o i).2.1 (fP o i).2.2,.i .i64 (fdE o i)]):=by
 refine ACp.introV envOk Tryz.func5 rfl (by kernel_rfl) Tryz.ntmps5 Tryz.results5 ((t2_nr (prs_nr _ _ _) _)) (fun nx cX=> ?_)
 refine AW.sr envOk (fun N hN=> ?_)
 simp-dsimp-implicitDefEqProofs (disch:=omega) only[go_sem,undef,w64,fdS,arr3,one3t]
 refine hN _ ?_
 try clear hN N
 refine AW.sr envOk (fun N hN=> ?_)
 simp-dsimp-implicitDefEqProofs (disch:=omega) only[go_sem,undef,w64,fdS,arr3,one3t]
 refine AC.pure (.of (spec_l30Find_ok o i)) ?_
 try simp-dsimp-implicitDefEqProofs (disch:=omega) only[go_sem,undef,w64,fdS,arr3,one3t]
 refine hN _ ?_
 try clear hN N
 refine AW.seq (fun N1 hN1=> ?_)
 refine AW.sr envOk (fun N hN=> ?_)
 simp-dsimp-implicitDefEqProofs (disch:=omega) only[go_sem,undef,w64,fdS,arr3,one3t]
 refine hN _ ?_
 try clear hN N
 refine AW.cond rfl (fun h1=> ?_) (fun h1=> ?_)
 ·try simp only[cn]at h1
  have he:fdE o i≠0:=by simpa using h1
  have hf:fP o i=([],[],[]):=by rw[fP,if_neg he]
  refine AW.sr envOk (fun N hN=> ?_)
  simp-dsimp-implicitDefEqProofs (disch:=omega) only[go_sem,undef,w64,fdS,arr3,one3t]
  refine hN _ ?_
  try clear hN N
  refine AW.ret ?_
  simp-dsimp-implicitDefEqProofs (disch:=omega) only[go_sem,undef]
  rw[hf]
  exact vw_pr prs_z.vw
 ·try simp only[cn]at h1
  have he:fdE o i=0:=by simpa using h1
  have hf:fP o i=pdT (fdK o i):=by rw[fP,if_pos he]
  have hpt:=spec_ParsePresentation_at (fdK_lt he)
  have ht:fT o i=(trow (fdK o i)).2.2:=by rw[fT,if_pos he]
  refine AW.skip ?_
  simp only[thn,blk]
  refine hN1 _ ?_
  try clear hN1 N1
  refine AW.sr envOk (fun N hN=> ?_)
  simp-dsimp-implicitDefEqProofs (disch:=omega) only[go_sem,undef,w64,fdS,arr3,one3t,ht]
  refine AC.pure (.of (hpt)) ?_
  try simp-dsimp-implicitDefEqProofs (disch:=omega) only[go_sem,undef,w64,prs]
  refine hN _ ?_
  try clear hN N
  refine AW.ret ?_
  simp-dsimp-implicitDefEqProofs (disch:=omega) only[go_sem,undef]
  rw[hf,he]
  exact .refl _
end Go.Proofs.YthncdadmkppclaaGreatDoor
