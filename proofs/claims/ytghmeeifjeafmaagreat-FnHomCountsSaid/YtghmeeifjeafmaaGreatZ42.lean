import Derived.Test.YtghmeeifjeafmaaGreatZ11
import Derived.Test.YtghmeeifjeafmaaGreatZ37
set_option linter.unusedVariables false
set_option linter.unusedSimpArgs false
namespace Go.Proofs.YtghmeeifjeafmaaGreat
open Nat (reduceAdd reduceSub reduceGT reduceEqDiff reduceMul)
def byts (bs:List Int):AV:= .v bs.length (bs.map (.i .u8))
def u8ok (n:Int):Prop:=0≤n∧n≤255
def bytsok (bs:List Int):Prop:=bs.length≤9223372036854775807∧∀n∈bs,u8ok n
section
variable {T:Type} {enc:TypeId×Value→T} {P:Program} {w:World} {sp:Nat→Bool} {held:Bool}
theorem rd_u8 {t:TypeId} {fuel:Nat} {v:Value} {x:DataW T×List MemPlace} (ht:P.underlying t=some (.int .u8)) (h:DataW.trod enc P w 0 sp held fuel t [v]=some x):∃n:Int,R noL w noM (.i .u8 n) v∧u8ok n:=by
  cases fuel with
  |zero=>cases h
  | succ fuel=>
    obtain⟨n,h1,_,h2⟩:=DataW.trod_int ht h
    simp only[List.cons.injEq,and_true]at h1
    subst h1
    refine⟨n,.i _ _,?_⟩
    simpa[u8ok,Lit.wf,IntKind.min,IntKind.max,IntKind.signed,IntKind.bits]using h2
theorem rd_bytes {t e:TypeId} {fuel:Nat} {v:Value} {x:DataW T×List MemPlace} (ht:P.underlying t=some (.slice e)) (he:P.underlying e=some (.int .u8)) (hc:P.cellsOf e=1) (h:DataW.trod enc P w 0 sp held fuel t [v]=some x):
    ∃xs:List Int,R noL w noM (byts xs) v∧bytsok xs:=by
  obtain⟨xs,h1,h2,h3⟩:=rd_slice (f:=AV.i .u8) (ok:=u8ok) ht hc (fun n u y hy=>rd_u8 he hy) h
  exact⟨xs,h1,by simpa[maxLen]using h2,h3⟩
end
theorem gd_u8 {bs:List Int} {k:Nat} (h:k<bs.length):(bs.map (AV.i .u8)).getD k .j= .i .u8 (bs.getD k 0):=by simp[h]
theorem bytsok.get {bs:List Int} (h:bytsok bs) {k:Nat} (hk:k<bs.length):0≤bs.getD k 0∧bs.getD k 0≤255:=by
  rw[List.getD_eq_getElem?_getD,List.getElem?_eq_getElem hk]
  exact h.2 _ (List.getElem_mem hk)
def srB (bs:List Int) (a s:Int):List AV:=[byts bs,.i .i64 a,.i .i64 s]
structure srOk (bs:List Int) (a s:Int):Prop where
  n:bs.length≤4096
  v:∀k,k<bs.length→0≤bs.getD k 0∧bs.getD k 0≤255
  a0:0≤a
  a1:a≤bs.length
  s0:0≤s
  s1:s<2147483647
def nxtK (bs:List Int) (sid:Nat) (n:Int) (H:HP):Nat→HP→AV→Prop:=fun _ H' r=>∃x a' s',r= .i .i64 x∧(0≤x∧(x<n∨x=0))∧srOk bs a' s'∧H'=upd H sid (some (srB bs a' s'))
theorem upd_id {H:HP} {i:Nat} {c:List AV} (h:H i=some c):upd H i (some c)=H:=by
  funext j
  by_cases e:j=i
  · subst e;rw[upd_same,h]
  rw[upd_ne _ _ e]
theorem nxt_fin {x n:Int} (h:0≤x) (hn:1<n):0≤x.tmod n∧(x.tmod n<n∨x.tmod n=0):=by
  rw[Int.tmod_eq_emod_of_nonneg h]
  exact⟨Int.emod_nonneg _ (by omega),.inl (Int.emod_lt_of_pos _ (by omega))⟩
theorem spec_l01Next_o (bs:List Int) (a s:Int) (ho:srOk bs a s) (n:Int) (hn:n≤1000000000) (nx:Nat) (H:HP) (sid:Nat) (hH:H sid=some (srB bs a s)):AC Tryz.prog 39 nx H [.q sid 0,.i .i64 n] (nxtK bs sid n H):=by
 obtain⟨o1,o2,o3,o4,o5,o6⟩:=id ho
 have hH2:=hH
 unfold srB byts at hH2
 refine AC.introx envOk Tryz.func39 rfl (by kernel_rfl) Tryz.ntmps39 Tryz.results39 (fun hfr cX=>?_)
 refine AW.sr envOk (fun N hN=>?_);simp-dsimp-implicitDefEqProofs (disch:=omega)only[go_sem,hH2];refine hN _ ?_;try clear hN N
 refine AW.seq (fun N1 hN1=>?_);refine AW.sr envOk (fun N hN=>?_);simp-dsimp-implicitDefEqProofs (disch:=omega)only[go_sem,hH2];refine hN _ ?_;try clear hN N
 refine AW.cond rfl (fun h1=>?_) (fun h1=>?_)
 ·try simp only[cn]at h1
  refine AW.sr envOk (fun N hN=>?_);simp-dsimp-implicitDefEqProofs (disch:=omega)only[go_sem,hH2];refine hN _ ?_;try clear hN N
  refine AW.ret ?_;simp-dsimp-implicitDefEqProofs (disch:=omega)only[go_sem];exact⟨_,fun _ _ h=>h,0,a,s,rfl,⟨by omega,.inr rfl⟩,ho,(upd_id hH).symm⟩
 try simp only[cn]at h1
 refine AW.skip ?_;simp only[thn,blk];refine hN1 _ ?_;try clear hN1 N1
 refine AW.sr envOk (fun N hN=>?_);simp-dsimp-implicitDefEqProofs (disch:=omega)only[go_sem,hH2];refine hN _ ?_;try clear hN N
 have hsr:0≤(s*48271+71).tmod 2147483647∧(s*48271+71).tmod 2147483647<2147483647:=by
  rw[Int.tmod_eq_emod_of_nonneg (by omega)]
  omega
 obtain⟨s2,hs2⟩:∃s2,(s*48271+71).tmod 2147483647=s2:=⟨_,rfl⟩
 rw[hs2]at hsr ⊢
 have hdr:0≤s2.tdiv 47∧s2.tdiv 47≤2147483647:=by
  rw[Int.tdiv_eq_ediv_of_nonneg hsr.1]
  omega
 refine AW.sr envOk (fun N hN=>?_);simp-dsimp-implicitDefEqProofs (disch:=omega)only[go_sem,hH2];refine hN _ ?_;try clear hN N
 refine AW.seq (fun N2 hN2=>?_);obtain⟨x0,hx0⟩:∃x0,s2.tdiv 47=x0:=⟨_,rfl⟩
 rw[hx0]at hdr ⊢
 refine AW.seq (fun N hN=>?_);refine AW.drawL envOk (by kernel_rfl) 10 (by kernel_rfl) ?_
 simp-dsimp-implicitDefEqProofs (disch:=omega)only[hr_nil,hr_one,hr_if,List.take_succ_cons,List.take_zero,List.drop_succ_cons,List.drop_zero,List.take_nil,List.drop_nil,go_sem,undef,w64,hH2];refine hN _ ?_;try clear hN N
 refine AW.cond rfl (fun h2=>?_) (fun h2=>?_)
 ·try simp only[cn]at h2
  have hb:=o2 a.toNat (by omega)
  refine AW.seq (fun N hN=>?_);refine AW.drawL envOk (by kernel_rfl) 14 (by kernel_rfl) ?_
  simp-dsimp-implicitDefEqProofs (disch:=omega)only[hr_nil,hr_one,hr_if,List.take_succ_cons,List.take_zero,List.drop_succ_cons,List.drop_zero,List.take_nil,List.drop_nil,go_sem,undef,w64,hH2,gd_u8];refine hN _ ?_;try clear hN N
  refine AW.sr envOk (fun N hN=>?_);simp-dsimp-implicitDefEqProofs (disch:=omega)only[go_sem,hH2];refine hN _ ?_;try clear hN N
  refine AW.sr envOk (fun N hN=>?_);simp-dsimp-implicitDefEqProofs (disch:=omega)only[go_sem,hH2];refine gopB.mk' (fun h3=>?_) (fun h3=>?_)
  ·try simp only[cn]at h3
   have hab:(a+1-1).toNat=a.toNat:=by omega
   try simp-dsimp-implicitDefEqProofs (disch:=omega)only[go_sem,hH2]
   refine hN _ ?_;try clear hN N
   refine AW.cond rfl (fun h4=>?_) (fun h4=>?_)
   ·try simp only[cn]at h4
    refine AW.drawL envOk (by kernel_rfl) 13 (by kernel_rfl) ?_
    simp-dsimp-implicitDefEqProofs (disch:=omega)only[hr_nil,hr_one,hr_if,List.take_succ_cons,List.take_zero,List.drop_succ_cons,List.drop_zero,List.take_nil,List.drop_nil,go_sem,undef,w64,hH2,gd_u8,hab];refine hN2 _ ?_;try clear hN2 N2
    refine AW.sr envOk (fun N hN=>?_);simp-dsimp-implicitDefEqProofs (disch:=omega)only[go_sem,hH2];refine hN _ ?_;try clear hN N
    refine AW.ret ?_;simp-dsimp-implicitDefEqProofs (disch:=omega)only[go_sem];exact⟨_,fun _ _ h=>h,_,a+1,s2,rfl,nxt_fin (by omega) (by omega),⟨o1,o2,by omega,by omega,by omega,by omega⟩,rfl⟩
   try simp only[cn]at h4
   refine AW.skip ?_;simp only[thn,blk];refine hN2 _ ?_;try clear hN2 N2
   refine AW.sr envOk (fun N hN=>?_);simp-dsimp-implicitDefEqProofs (disch:=omega)only[go_sem,hH2];refine hN _ ?_;try clear hN N
   refine AW.ret ?_;simp-dsimp-implicitDefEqProofs (disch:=omega)only[go_sem];exact⟨_,fun _ _ h=>h,_,a+1,s2,rfl,nxt_fin (by omega) (by omega),⟨o1,o2,by omega,by omega,by omega,by omega⟩,rfl⟩
  try simp only[cn]at h3
  try simp-dsimp-implicitDefEqProofs (disch:=omega)only[go_sem,hH2]
  refine hN _ ?_;try clear hN N
  refine AW.condF rfl ?_;refine AW.skip ?_;simp only[thn,blk];refine hN2 _ ?_;try clear hN2 N2
  refine AW.sr envOk (fun N hN=>?_);simp-dsimp-implicitDefEqProofs (disch:=omega)only[go_sem,hH2];refine hN _ ?_;try clear hN N
  refine AW.ret ?_;simp-dsimp-implicitDefEqProofs (disch:=omega)only[go_sem];exact⟨_,fun _ _ h=>h,_,a+1,s2,rfl,nxt_fin (by omega) (by omega),⟨o1,o2,by omega,by omega,by omega,by omega⟩,rfl⟩
 try simp only[cn]at h2
 refine AW.skip ?_;simp only[thn,blk];refine hN2 _ ?_;try clear hN2 N2
 refine AW.sr envOk (fun N hN=>?_);simp-dsimp-implicitDefEqProofs (disch:=omega)only[go_sem,hH2];refine hN _ ?_;try clear hN N
 refine AW.ret ?_;simp-dsimp-implicitDefEqProofs (disch:=omega)only[go_sem];exact⟨_,fun _ _ h=>h,_,a,s2,rfl,nxt_fin (by omega) (by omega),⟨o1,o2,by omega,by omega,by omega,by omega⟩,rfl⟩
theorem spec_l01From_n (bs:List Int) (hb:bytsok bs) (hn:bs.length≤4096) (nx:Nat):AC Tryz.prog 22 nx noH [byts bs] (fun nx' H' r=>∃id a s,r= .q id 0∧nx≤id∧id<nx'∧srOk bs a s∧H' id=some (srB bs a s)):=by
 refine AC.introx envOk Tryz.func22 rfl (by kernel_rfl) Tryz.ntmps22 Tryz.results22 (fun hfr cX=>?_)
 refine AW.sr envOk (fun N hN=>?_);simp-dsimp-implicitDefEqProofs (disch:=omega)only[go_sem,byts];refine hN _ ?_;try clear hN N
 refine AW.sr envOk (fun N hN=>?_);simp-dsimp-implicitDefEqProofs (disch:=omega)only[go_sem,byts];refine hN _ ?_;try clear hN N
 refine AW.seq (fun N1 hN1=>?_);refine AW.sr envOk (fun N hN=>?_);simp-dsimp-implicitDefEqProofs (disch:=omega)only[go_sem,byts];refine hN _ ?_;try clear hN N
 refine AW.block ?_;refine AW.loopN (α:=Nat×Int) (fun x=>sl 34 [(0,byts bs),(3,.q (nx+1+2) 0),(4,.i .i64 x.1)]) (fun x=>upd noH (nx+1+2) (some (srB bs 0 x.2))) (fun x m=>(x.1≤bs.length∧nx+3<m)∧(0≤x.2∧x.2<2147483647)) (fun x=>bs.length-x.1) ((0,76001)) ?_ ?_ (by exact Le.refl _) ?_
 ·exact⟨⟨Nat.zero_le _,by first|omega|(simp only;omega)|(dsimp only;omega)⟩,by decide⟩
 ·simp(disch:=omega) [wks,wkA,sl,byts]<;>omega
 skip
 rintro⟨k,s⟩ m ⟨⟨hk,hm⟩,hs⟩
 dsimp only at hk hm hs ⊢
 simp only[byts,srB];simp-dsimp-implicitDefEqProofs (disch:=omega)only[go_sem];refine AW.seq (fun N2 hN2=>?_);refine AW.sr envOk (fun N hN=>?_);simp-dsimp-implicitDefEqProofs (disch:=omega)only[go_sem,byts];refine gopB.mk' (fun h1=>?_) (fun h1=>?_)
 ·try simp only[cn]at h1
  have hbk:=hb.get (k:=k) (by omega)
  have hsr:0≤(s*71+bs.getD k 0).tmod 2147483647∧(s*71+bs.getD k 0).tmod 2147483647<2147483647:=by
   rw[Int.tmod_eq_emod_of_nonneg (by omega)]
   omega
  try simp-dsimp-implicitDefEqProofs (disch:=omega)only[go_sem,byts]
  refine hN _ ?_;try clear hN N
  refine AW.cond rfl (fun h2=>?_) (fun h2=>?_)
  ·try simp only[cn]at h2
   refine AW.skip ?_;simp only[thn,blk];refine hN2 _ ?_;try clear hN2 N2
   refine AW.seq (fun N3 hN3=>?_);refine AW.block ?_;refine AW.drawL envOk (by kernel_rfl) 15 (by kernel_rfl) ?_
   simp-dsimp-implicitDefEqProofs (disch:=omega)only[hr_nil,hr_one,hr_if,List.take_succ_cons,List.take_zero,List.drop_succ_cons,List.drop_zero,List.take_nil,List.drop_nil,go_sem,undef,w64,byts,gd_u8];refine hN3 _ ?_;try clear hN3 N3
   refine AW.regionL envOk ?_;simp-dsimp-implicitDefEqProofs (disch:=omega)only[go_sem,byts];refine⟨(k+1,(s*71+bs.getD k 0).tmod 2147483647),?_,fun _ _ h=>h,?_,?_⟩
   ·simp(disch:=omega) [wks,wkA,sl,byts]<;>omega
   ·(try dsimp only);omega
   first|omega|(simp only;omega)
  try simp only[cn]at h2
  refine AW.exit ?_;simp only[thn,blk,if_true];refine hN1 _ ?_;try clear hN1 N1
  refine AW.sr envOk (fun N hN=>?_);simp-dsimp-implicitDefEqProofs (disch:=omega)only[go_sem,byts];refine hN _ ?_;try clear hN N
  refine AW.ret ?_;simp-dsimp-implicitDefEqProofs (disch:=omega)only[go_sem];exact⟨_,fun _ _ h=>h,nx+1+2,0,s,rfl,by omega,by omega,⟨hn,fun k hk=>hb.get hk,by omega,by omega,hs.1,hs.2⟩,upd_same _ _ _⟩
 try simp only[cn]at h1
 try simp-dsimp-implicitDefEqProofs (disch:=omega)only[go_sem,byts]
 refine hN _ ?_;try clear hN N
 refine AW.condF rfl ?_;refine AW.exit ?_;simp only[thn,blk,if_true];refine hN1 _ ?_;try clear hN1 N1
 refine AW.sr envOk (fun N hN=>?_);simp-dsimp-implicitDefEqProofs (disch:=omega)only[go_sem,byts];refine hN _ ?_;try clear hN N
 refine AW.ret ?_;simp-dsimp-implicitDefEqProofs (disch:=omega)only[go_sem];exact⟨_,fun _ _ h=>h,nx+1+2,0,s,rfl,by omega,by omega,⟨hn,fun k hk=>hb.get hk,by omega,by omega,hs.1,hs.2⟩,upd_same _ _ _⟩
end Go.Proofs.YtghmeeifjeafmaaGreat
namespace Go.Proofs.YtghmeeifjeafmaaGreat
open Nat (reduceAdd reduceSub reduceGT reduceEqDiff reduceMul)
def digC:List UInt8→Option Int
  |[c]=>if c=50∨c=51∨c=53∨c=55 then some ((c.toNat:Int)-48)else none
  |_=>none
def digsC:List (List UInt8)→Option (List Int)
  |[]=>some []
  |p::ps=>(digC p).bind fun d=>(digsC ps).bind fun ds=>some (d::ds)
def ordC (l:List UInt8):Option (List Int):=if l=[49]then some []else (digsC (spL 32 l)).bind fun os=>if os.length≤6∧prd os os.length≤729 then some os else none
theorem val1 {c:UInt8} (h1:48≤(c.toNat:Int)) (h2:(c.toNat:Int)≤57):valS (ofL [c])=(c.toNat:Int)-48:=by
  have hb:byt (ofL [c]) 0=(c.toNat:Int):=rfl
  have hs:(ofL [c]).size=1:=rfl
  rw[val_yes (by rw[hs];omega) (fun j hj=>by
    obtain rfl:j=0:=by rw[hs]at hj;omega
    unfold isDig;rw[hb];omega),hs]
  simp only[vpre,hb];omega
theorem digC_val {p:List UInt8} {d:Int} (h:digC p=some d):valS (ofL p)=d∧pr4 d:=by
  unfold digC at h
  split at h
  · split at h
    · rename_i c hc
      cases h
      rcases hc with rfl|rfl|rfl|rfl
      · exact⟨val1 (by decide) (by decide),.inl rfl⟩
      · exact⟨val1 (by decide) (by decide),.inr (.inl rfl)⟩
      · exact⟨val1 (by decide) (by decide),.inr (.inr (.inl rfl))⟩
      exact⟨val1 (by decide) (by decide),.inr (.inr (.inr rfl))⟩
    cases h
  cases h
theorem digsC_at:∀{ps:List (List UInt8)} {os:List Int},digsC ps=some os→os.length=ps.length∧∀k,k<ps.length→digC (ps.getD k [])=some (os.getD k 0):=by
  intro ps
  induction ps with
  |nil=>intro os h;cases h;exact⟨rfl,fun k hk=>by simp at hk⟩
  | cons p ps ih=>
    intro os h
    rw[digsC]at h
    cases hd:digC p with
    |none=>rw[hd]at h;cases h
    | some d=>
      cases hds:digsC ps with
      |none=>rw[hd,hds]at h;cases h
      | some ds=>
        rw[hd,hds]at h
        cases h
        obtain⟨h1,h2⟩:=ih hds
        refine⟨by simp[h1],fun k hk=>?_⟩
        cases k with
        |zero=>simpa using hd
        |succ k=>simpa using h2 k (by simpa using hk)
set_option maxHeartbeats 4000000 in theorem spec_l07Orders_ok (l:List UInt8) (os:List Int) (hl:l.length≤2097152) (h:ordC l=some os):ACp Tryz.prog 161 [.s (ofL l)] (.t [ints os,.b true]):=by
 have hsp2:ACp Tryz.prog 160 [.s (ofL l),.i .u8 32] (strs ((spL 32 l).map ofL)):=by
  have:=spec_l01Split_ok (ofL l) 32 (by rw[ofL_sz];omega)
  rwa [spw_L]at this
 refine ACp.introV envOk Tryz.func161 rfl (by kernel_rfl) Tryz.ntmps161 Tryz.results161 ((tb_nr (intsL2 _) _)) (fun nx cX=>?_)
 refine AW.sr envOk (fun N hN=>?_);simp-dsimp-implicitDefEqProofs (disch:=omega)only[go_sem];refine hN _ ?_;try clear hN N
 refine AW.sr envOk (fun N hN=>?_);simp-dsimp-implicitDefEqProofs (disch:=omega)only[go_sem];refine hN _ ?_;try clear hN N
 refine AW.seq (fun N1 hN1=>?_);refine AW.sr envOk (fun N hN=>?_);simp-dsimp-implicitDefEqProofs (disch:=omega)only[go_sem];refine hN _ ?_;try clear hN N
 refine AW.cond rfl (fun h1=>?_) (fun h1=>?_)
 ·try simp only[cn]at h1
  have hl1:l=[49]:=toL_eq.1 h1
  have hos:os=[]:=by rw[ordC,if_pos hl1]at h;cases h;rfl
  refine AW.sr envOk (fun N hN=>?_);simp-dsimp-implicitDefEqProofs (disch:=omega)only[go_sem];refine hN _ ?_;try clear hN N
  refine AW.ret ?_;simp-dsimp-implicitDefEqProofs (disch:=omega)only[go_sem];rw[hos]
  exact vw_tb (Vw.fr (upd_same _ _ _) rfl)
 try simp only[cn]at h1
 have hl1:¬l=[49]:=fun e=>h1 (toL_eq.2 e)
 rw[ordC,if_neg hl1]at h
 obtain⟨ds,hds,h⟩:=Option.bind_eq_some_iff.1 h
 have hcond:ds.length≤6∧prd ds ds.length≤729:=by
  apply Classical.byContradiction;intro hn;rw[if_neg hn]at h;cases h
 rw[if_pos hcond]at h
 cases h
 obtain⟨hdl,hdg⟩:=digsC_at hds
 have hpr:∀i,i<os.length→pr4 (os.getD i 0):=fun i hi=>(digC_val (hdg i (by omega))).2
 refine AW.skip ?_;simp only[thn,blk];refine hN1 _ ?_;try clear hN1 N1
 refine AW.sr envOk (fun N hN=>?_);simp-dsimp-implicitDefEqProofs (disch:=omega)only[go_sem];refine AC.pure (.of (hsp2)) ?_;try simp-dsimp-implicitDefEqProofs (disch:=omega)only[go_sem]
 refine hN _ ?_;try clear hN N
 refine AW.seq (fun N2 hN2=>?_);refine AW.sr envOk (fun N hN=>?_);simp-dsimp-implicitDefEqProofs (disch:=omega)only[go_sem];refine hN _ ?_;try clear hN N
 refine AW.block ?_;refine AW.loopN (α:=Nat×Nat) (fun x=>sl 40 [(4,.h x.2 0 x.1),(5,strs ((spL 32 l).map ofL)),(6,.i .i64 x.1)]) (fun x=>upd noH x.2 (some ((os.take x.1).map (.i .i64)))) (fun x m=>x.1≤os.length∧x.2<m) (fun x=>os.length-x.1) ((0,nx+2)) ?_ ?_ (by intro d cs hd;exact hd) ?_
 ·exact⟨by simp,by first|omega|(simp only;omega)|(dsimp only;omega)⟩
 ·simp(disch:=omega) [wks,wkA,sl,strs]
 skip
 rintro⟨k,id⟩ m ⟨hk,hid⟩
 simp-dsimp-implicitDefEqProofs (disch:=omega)only[go_sem];dsimp only at hk hid ⊢
 have hlen:((spL 32 l).map ofL).length=os.length:=by rw[List.length_map];omega
 refine AW.seq (fun N3 hN3=>?_);refine AW.sr envOk (fun N hN=>?_);simp-dsimp-implicitDefEqProofs (disch:=omega)only[go_sem,strs,hlen];refine hN _ ?_;try clear hN N
 refine AW.cond rfl (fun h2=>?_) (fun h2=>?_)
 ·try simp only[cn]at h2
  have hkn:k<os.length:=by omega
  have hg:=strs_ofL (spL 32 l) (k:=k) (by omega)
  obtain⟨hval,hp4⟩:=digC_val (hdg k (by omega))
  have hb4:=pr4_bd hp4
  have hv2:=spec_l01Value_ok (ofL ((spL 32 l).getD k []))
  rw[hval]at hv2
  have htf:tf (pr4 (os.getD k 0))=true:=tf_t hp4
  have hk6:decide ((k:Int)≥6)=false:=decide_eq_false (by omega)
  have hk7:decide (6≤(k:Int))=false:=decide_eq_false (by omega)
  have htk:os.take (k+1)=os.take k++[os.getD k 0]:=by
   rw[List.take_succ_eq_append_getElem hkn];simp[hkn]
  have hle:((os.take k).map (AV.i .i64)).length=k:=by rw[List.length_map,List.length_take];omega
  have htt:List.take k ((os.take k).map (AV.i .i64))=(os.take k).map (.i .i64):=List.take_of_length_le (by omega)
  refine AW.skip ?_;simp only[thn,blk];refine hN3 _ ?_;try clear hN3 N3
  refine AW.seq (fun N4 hN4=>?_);refine AW.block ?_;refine AW.sr envOk (fun N hN=>?_);simp-dsimp-implicitDefEqProofs (disch:=omega)only[go_sem,strs,hlen,hg,Int.toNat_natCast];refine AC.pure (.of (hv2)) ?_;try simp-dsimp-implicitDefEqProofs (disch:=omega)only[go_sem]
  refine hN _ ?_;try clear hN N
  refine AW.seq (fun N5 hN5=>?_);refine AW.sr envOk (fun N hN=>?_);simp-dsimp-implicitDefEqProofs (disch:=omega)only[go_sem,htf,hk6,hk7];refine AC.pure (.of (spec_l01Prime_ok (os.getD k 0))) ?_;try simp-dsimp-implicitDefEqProofs (disch:=omega)only[go_sem,htf,hk6,hk7,Bool.not_true]
  refine hN _ ?_;try clear hN N
  refine AW.condF rfl ?_;refine AW.skip ?_;simp only[thn,blk];refine hN5 _ ?_;try clear hN5 N5
  refine AW.regionL envOk ?_;simp-dsimp-implicitDefEqProofs (disch:=omega)only[go_sem,hle,htt];refine hN4 _ ?_;try clear hN4 N4
  refine AW.regionL envOk ?_;simp-dsimp-implicitDefEqProofs (disch:=omega)only[go_sem];refine⟨(k+1,_),?_,by rw[htk,List.map_append];exact le_one (upd_same _ _ _),?_,?_⟩
  ·simp(disch:=omega) [wks,wkA,sl,w64,strs,hlen]
  ·exact⟨by first|omega|(simp only;omega)|(dsimp only;omega),by first|omega|(simp only;omega)|(dsimp only;omega)⟩
  first|omega|(simp only;omega)
 try simp only[cn]at h2
 have hke:k=os.length:=by omega
 rw[hke,List.take_length]
 have hsp:=sprd_bd hpr os.length (Nat.le_refl _)
 have h729:decide (sprd os os.length≤729)=true:=decide_eq_true (by omega)
 refine AW.exit ?_;simp only[thn,blk,if_true];refine hN2 _ ?_;try clear hN2 N2
 refine AW.sr envOk (fun N hN=>?_);simp-dsimp-implicitDefEqProofs (disch:=omega)only[go_sem,h729];refine AC.pure (.lent (spec_l07Product_ok os hcond.1 hpr) (.cons (Vw.fr (upd_same _ _ _) (List.length_map ..)) .nil) (.i _ _)) ?_
 try simp-dsimp-implicitDefEqProofs (disch:=omega)only[go_sem]
 refine hN _ ?_;try clear hN N
 refine AW.ret ?_;simp-dsimp-implicitDefEqProofs (disch:=omega)only[go_sem];rw[h729]
 exact vw_tb (Vw.fr (upd_same _ _ _) (List.length_map ..))
def letC (i:Nat):List UInt8:=[UInt8.ofNat (97+i)]
theorem wtx_let (i:Nat) (h:i<6):wtx [(i:Int)+1]=ofL (letC i):=by
  have h0:wtx [((0:Nat):Int)+1]=ofL (letC 0):=by kernel_rfl
  have h1:wtx [((1:Nat):Int)+1]=ofL (letC 1):=by kernel_rfl
  have h2:wtx [((2:Nat):Int)+1]=ofL (letC 2):=by kernel_rfl
  have h3:wtx [((3:Nat):Int)+1]=ofL (letC 3):=by kernel_rfl
  have h4:wtx [((4:Nat):Int)+1]=ofL (letC 4):=by kernel_rfl
  have h5:wtx [((5:Nat):Int)+1]=ofL (letC 5):=by kernel_rfl
  have hi:i=0∨i=1∨i=2∨i=3∨i=4∨i=5:=by omega
  rcases hi with rfl|rfl|rfl|rfl|rfl|rfl<;>assumption
theorem spec_l07Letter_ok (i:Nat) (h:i<6):ACp Tryz.prog 168 [.i .i64 i] (.s (ofL (letC i))):=by
 have hwt:=spec_l06Text_ok [(i:Int)+1] (by simp)
 rw[wtx_let i h]at hwt
 refine ACp.intro' envOk Tryz.func168 rfl (by kernel_rfl) Tryz.ntmps168 Tryz.results168 (.s _) (fun nx cX=>?_)
 refine AW.sr envOk (fun N hN=>?_);simp-dsimp-implicitDefEqProofs (disch:=omega)only[go_sem];refine hN _ ?_;try clear hN N
 refine AW.sr envOk (fun N hN=>?_);simp-dsimp-implicitDefEqProofs (disch:=omega)only[go_sem];refine AC.pure (.lent (hwt) (.cons (Vw.fr (upd_same _ _ _) rfl) .nil) (.s _)) ?_
 try simp-dsimp-implicitDefEqProofs (disch:=omega)only[go_sem]
 refine hN _ ?_;try clear hN N
 refine AW.ret ?_;simp-dsimp-implicitDefEqProofs (disch:=omega)only[go_sem];skip
end Go.Proofs.YtghmeeifjeafmaaGreat
