import Derived.Test.YtghmeeifjeafmaaGreatZ38
import Derived.Test.YtghmeeifjeafmaaGreatZ47
set_option linter.unusedVariables false
set_option linter.unusedSimpArgs false
namespace Go.Proofs.YtghmeeifjeafmaaGreat
open Nat (reduceAdd reduceSub reduceGT reduceEqDiff reduceMul)
def LS (sz:Nat) (H:HP) (a b:Nat) (L:AV) (n:Nat) (cs:List AV):Prop:=(L= .nl∧n=0∧cs=[])∨∃id,L= .hs sz id 0 n∧H id=some cs∧cs.length=n*sz∧a≤id∧id<b
section
variable {sz:Nat} {H H':HP} {a b:Nat} {L:AV} {n:Nat} {cs:List AV}
theorem LS.keep (h:LS sz H a b L n cs) (hk:∀i,a≤i→i<b→H' i=H i):LS sz H' a b L n cs:=by
  rcases h with h|⟨id,h1,h2,h3,h4,h5⟩
  · exact .inl h
  exact .inr ⟨id,h1,(hk id h4 h5).trans h2,h3,h4,h5⟩
theorem LS.upd {i:Nat} {c:Option (List AV)} (hi:i<a∨b≤i) (h:LS sz H a b L n cs):LS sz (Go.Proofs.YtghmeeifjeafmaaGreat.upd H i c) a b L n cs:=h.keep (fun j h1 h2=>upd_ne _ _ (by omega))
theorem LS.wide {a' b':Nat} (h:LS sz H a b L n cs) (h1:a'≤a) (h2:b≤b'):LS sz H a' b' L n cs:=by
  rcases h with h|⟨id,h3,h4,h5,h6,h7⟩
  · exact .inl h
  exact .inr ⟨id,h3,h4,h5,by omega,by omega⟩
theorem LS.nil:LS sz H a b .nl 0 []:= .inl ⟨rfl,rfl,rfl⟩
theorem LS.mk {id:Nat} (h:H id=some cs) (hl:cs.length=n*sz) (h1:a≤id) (h2:id<b):LS sz H a b (.hs sz id 0 n) n cs:= .inr ⟨id,rfl,h,hl,h1,h2⟩
end
section
variable (os:List Int) (pw:List (List Int)) (cj:List (List (List Int))) (ot:List Int) (qw:List (List Int)) (dj:List (List (List Int)))
noncomputable def alM:List (List (List Int))×Int:=if (hmM os pw cj ot qw dj).2≠0 then ([],(hmM os pw cj ot qw dj).2)else if 200<(hmM os pw cj ot qw dj).1.length then ([],3)else ((hmM os pw cj ot qw dj).1,0)
noncomputable def resHm (m:List (List (List Int))×Int):AV:= .t [homsA os pw cj ot qw dj m.1,.i .i64 m.2]
theorem homsA_nr (Ws:List (List (List Int))):NR (homsA os pw cj ot qw dj Ws):= .v _ _ fun k x hk=>by
  have hm:=List.mem_of_getElem? hk
  unfold homsC at hm
  obtain⟨W,_,hm⟩:=List.mem_flatMap.1 hm
  simp only[homC,List.mem_cons,List.not_mem_nil,or_false]at hm
  rcases hm with rfl|rfl|rfl|rfl|rfl|rfl|rfl
  · exact ints_nr _
  · exact rows_nr _
  · exact cubes_nr _
  · exact ints_nr _
  · exact rows_nr _
  · exact cubes_nr _
  exact rows_nr _
theorem resHm_nr (m:List (List (List Int))×Int):NR (resHm os pw cj ot qw dj m):=NR.ts (fun x hx=>by
  simp only[List.mem_cons,List.not_mem_nil,or_false]at hx
  rcases hx with rfl|rfl
  · exact homsA_nr _ _ _ _ _ _ _
  exact .i _ _)
theorem hm_code:(hmM os pw cj ot qw dj).2=cceP (grpP os pw cj∧grpP ot qw dj) (hmT os ot):=by
  unfold hmM cceP
  split
  · split<;>rfl
  rfl
theorem hm_cnt:((hmM os pw cj ot qw dj).1.length:Int)=ccvP (grpP os pw cj∧grpP ot qw dj) (hmT os ot) (cntF (hmQ os pw cj ot qw dj) (hmT os ot).toNat):=by
  unfold hmM ccvP
  split
  · split
    · exact homF_len _ _ _ _ _ _ _
    rfl
  rfl
theorem hmM_len:(hmM os pw cj ot qw dj).1.length≤4096:=by
  unfold hmM
  split
  · split
    · rename_i h
      have:=homF_le os pw cj ot qw dj (hmT os ot).toNat
      dsimp only
      omega
    simp
  simp
theorem impl_CountHoms_ok (hl:prlen os pw cj) (hl2:prlen ot qw dj):ACp Tryz.prog 9 [prs os pw cj,prs ot qw dj] (resN (hmM os pw cj ot qw dj).1.length (hmM os pw cj ot qw dj).2):=by
 have hml:=hmM_len os pw cj ot qw dj
 refine ACp.intro' envOk Tryz.func9 rfl (by kernel_rfl) Tryz.ntmps9 Tryz.results9 (resN_nr _ _) (fun nx cX=>?_)
 refine AW.sr envOk (fun N hN=>?_);simp-dsimp-implicitDefEqProofs (disch:=omega)only[go_sem,prs,resN,resCb,cubes];refine hN _ ?_;try clear hN N
 refine AW.freezeQ 2 nx _ rfl ((upd_ne _ _ (by omega)).trans (upd_same _ _ _)) ?_
 simp-dsimp-implicitDefEqProofs (disch:=omega)only[go_sem];refine AW.freezeQ 3 (nx+1) _ rfl ((upd_ne _ _ (by omega)).trans (upd_same _ _ _)) ?_
 simp-dsimp-implicitDefEqProofs (disch:=omega)only[go_sem];refine AW.sr envOk (fun N hN=>?_);simp-dsimp-implicitDefEqProofs (disch:=omega)only[go_sem,prs,resN,resCb,cubes];refine AC.pure (.of (impl_homImages_ok os pw cj ot qw dj hl hl2)) ?_;try simp-dsimp-implicitDefEqProofs (disch:=omega)only[go_sem,prs,resN,resCb,cubes]
 refine hN _ ?_;try clear hN N
 refine AW.sr envOk (fun N hN=>?_);simp-dsimp-implicitDefEqProofs (disch:=omega)only[go_sem,prs,resN,resCb,cubes];refine hN _ ?_;try clear hN N
 refine AW.ret ?_;simp-dsimp-implicitDefEqProofs (disch:=omega)only[go_sem];rfl
theorem tkC {Ws:List (List (List Int))} {k:Nat} (h:k<Ws.length):homsC os pw cj ot qw dj (Ws.take (k+1))=homsC os pw cj ot qw dj (Ws.take k)++homC os pw cj ot qw dj (Ws.getD k []):=by
  rw[List.take_succ_eq_append_getElem h,homsC_app]
  simp[h]
theorem tk1C {Ws:List (List (List Int))} (h:0<Ws.length):homsC os pw cj ot qw dj (Ws.take 1)=homC os pw cj ot qw dj (Ws.getD 0 []):=by
  have:=tkC os pw cj ot qw dj h
  rwa [List.take_zero]at this
omit os pw cj qw dj in
theorem exs_rl {ot:List Int} {xs:List (List Int)} (h:exsP ot xs) (h1:xs.length≤1000) (h2:ot.length≤1000):rowslen xs:=⟨by omega,fun x hx=>by
  obtain⟨k,hk,rfl⟩:=List.mem_iff_getElem.1 hx
  have:=(h k hk).1
  rw[List.getD_eq_getElem?_getD,List.getElem?_eq_getElem hk]at this
  simp at this;omega⟩
theorem sz7 (a b c d e f g:Value):(#[a,b,c,d,e,f,g]:Array Value).size=7:=rfl
theorem homC_ones (W:List (List Int)):(∀z∈ [ints os,rows pw,cubes cj,ints ot,rows qw,cubes dj,rows W],one z=true)=True:=eq_true (fun z hz=>by
  simp only[List.mem_cons,List.not_mem_nil,or_false]at hz
  rcases hz with rfl|rfl|rfl|rfl|rfl|rfl|rfl<;>rfl)
set_option maxHeartbeats 2000000 in
theorem impl_AllHoms_ok (hl:prlen os pw cj) (hl2:prlen ot qw dj):ACp Tryz.prog 7 [prs os pw cj,prs ot qw dj] (resHm os pw cj ot qw dj (alM os pw cj ot qw dj)):=by
 have hml:=hmM_len os pw cj ot qw dj
 have hlo:=hl.o
 have hlo2:=hl2.o
 obtain⟨M,hM⟩:∃M,hmM os pw cj ot qw dj=M:=⟨_,rfl⟩
 have hhi:=impl_homImages_ok os pw cj ot qw dj hl hl2
 rw[hM]at hml hhi
 unfold alM
 rw[hM]
 have hcM:cubes M.1= .v M.1.length (M.1.map rows):=rfl
 refine ACp.introV envOk Tryz.func7 rfl (by kernel_rfl) Tryz.ntmps7 Tryz.results7 ((resHm_nr _ _ _ _ _ _ _)) (fun nx cX=>?_)
 refine AW.sr envOk (fun N hN=>?_);simp-dsimp-implicitDefEqProofs (disch:=omega)only[go_sem,prs,resCb,hcM,gd_c];refine hN _ ?_;try clear hN N
 refine AW.freezeQ 2 nx _ rfl ((upd_ne _ _ (by omega)).trans (upd_same _ _ _)) ?_
 simp-dsimp-implicitDefEqProofs (disch:=omega)only[go_sem];refine AW.freezeQ 3 (nx+1) _ rfl ((upd_ne _ _ (by omega)).trans (upd_same _ _ _)) ?_
 simp-dsimp-implicitDefEqProofs (disch:=omega)only[go_sem];refine AW.sr envOk (fun N hN=>?_);simp-dsimp-implicitDefEqProofs (disch:=omega)only[go_sem,prs,resCb,hcM,gd_c];refine AC.pure (.of (hhi)) ?_;try simp-dsimp-implicitDefEqProofs (disch:=omega)only[go_sem,prs,resCb,hcM,gd_c]
 refine hN _ ?_;try clear hN N
 refine AW.seq (fun N1 hN1=>?_);refine AW.sr envOk (fun N hN=>?_);simp-dsimp-implicitDefEqProofs (disch:=omega)only[go_sem,prs,resCb,hcM,gd_c];refine hN _ ?_;try clear hN N
 refine AW.cond rfl (fun h1=>?_) (fun h1=>?_)
 ·try simp only[cn]at h1
  refine AW.sr envOk (fun N hN=>?_);simp-dsimp-implicitDefEqProofs (disch:=omega)only[go_sem,prs,resCb,hcM,gd_c];refine hN _ ?_;try clear hN N
  refine AW.ret ?_;simp-dsimp-implicitDefEqProofs (disch:=omega)only[go_sem];rw[if_pos (by omega)]
  exact Vw.t2 .nl
 try simp only[cn]at h1
 refine AW.skip ?_;simp only[thn,blk];refine hN1 _ ?_;try clear hN1 N1
 refine AW.seq (fun N2 hN2=>?_);refine AW.sr envOk (fun N hN=>?_);simp-dsimp-implicitDefEqProofs (disch:=omega)only[go_sem,prs,resCb,hcM,gd_c];refine hN _ ?_;try clear hN N
 refine AW.cond rfl (fun h2=>?_) (fun h2=>?_)
 ·try simp only[cn]at h2
  refine AW.sr envOk (fun N hN=>?_);simp-dsimp-implicitDefEqProofs (disch:=omega)only[go_sem,prs,resCb,hcM,gd_c];refine hN _ ?_;try clear hN N
  refine AW.ret ?_;simp-dsimp-implicitDefEqProofs (disch:=omega)only[go_sem];rw[if_neg (by omega),if_pos (by omega)]
  exact Vw.t2 .nl
 try simp only[cn]at h2
 have hok:grpP os pw cj∧grpP ot qw dj:=by
  apply Classical.byContradiction
  intro hn
  rw[hmM_1 os pw cj ot qw dj hn]at hM
  subst hM
  exact absurd h1 (by simp)
 have hpd:=hok.1.1.drw
 have hqd:=hok.2.1.drw
 have hc1:=impl_copyPresentation_ok os pw cj hlo hpd.p hpd.c
 have hc2:=impl_copyPresentation_ok ot qw dj hlo2 hqd.p hqd.c
 refine AW.skip ?_;simp only[thn,blk];refine hN2 _ ?_;try clear hN2 N2
 refine AW.sr envOk (fun N hN=>?_);simp-dsimp-implicitDefEqProofs (disch:=omega)only[go_sem,prs,resCb,hcM,gd_c];refine hN _ ?_;try clear hN N
 refine AW.seq (fun N3 hN3=>?_);refine AW.sr envOk (fun N hN=>?_);simp-dsimp-implicitDefEqProofs (disch:=omega)only[go_sem,prs,resCb,hcM,gd_c];refine hN _ ?_;try clear hN N
 refine AW.block ?_;refine AW.loopN (α:=Nat×HP×AV) (fun x=>sl 36 [(2,prsP os pw cj),(3,prsP ot qw dj),(8,x.2.2),(21,cubes M.1),(22,.i .i64 M.1.length),(23,.i .i64 x.1)]) (fun x=>x.2.1) (fun x m=>(x.1≤M.1.length∧nx≤m)∧LS 7 x.2.1 nx m x.2.2 x.1 (homsC os pw cj ot qw dj (M.1.take x.1))) (fun x=>M.1.length-x.1) ((0,noH,.nl)) ?_ ?_ (by intro d cs hd;cases hd) ?_
 ·exact⟨⟨by simp,by first|omega|(simp only;omega)|(dsimp only;omega)⟩,.nil⟩
 ·simp(disch:=omega) [wks,wkA,sl,prsP,ints,rows,cubes]
 skip
 rintro⟨k,G,L⟩ m ⟨⟨hk,hm⟩,hL⟩
 dsimp only at hk hm hL ⊢
 rcases hL with ⟨rfl,rfl,hcs⟩|⟨id,rfl,hid,hln,hi1,hi2⟩
 ·skip
  simp only[prsP,hcM];simp-dsimp-implicitDefEqProofs (disch:=omega)only[go_sem];refine AW.sr envOk (fun N hN=>?_);simp-dsimp-implicitDefEqProofs (disch:=omega)only[go_sem,prs,resCb,hcM,gd_c];refine hN _ ?_;try clear hN N
  refine AW.seq (fun N4 hN4=>?_);refine AW.cond rfl (fun h3=>?_) (fun h3=>?_)
  ·try simp only[cn]at h3
   refine AW.skip ?_;simp only[thn,blk];refine hN4 _ ?_;try clear hN4 N4
   refine AW.seq (fun N5 hN5=>?_);refine AW.block ?_;refine AW.sr envOk (fun N hN=>?_);simp-dsimp-implicitDefEqProofs (disch:=omega)only[go_sem,prs,resCb,hcM,gd_c];refine hN _ ?_;try clear hN N
   refine AW.regionL envOk ?_;simp-dsimp-implicitDefEqProofs (disch:=omega)only[go_sem,prs,resCb,hcM,gd_c];refine AC.pure (.of (hc1)) ?_;try simp-dsimp-implicitDefEqProofs (disch:=omega)only[go_sem,prs,resCb,hcM,gd_c]
   refine AC.pure (.of (hc2)) ?_;try simp-dsimp-implicitDefEqProofs (disch:=omega)only[go_sem,prs,hcM,gd_c,homC_ones,sz7,eq_self,true_and]
   refine hN5 _ ?_;try clear hN5 N5
   refine AW.nameH (fun G9 hG9=>?_);dsimp only at hG9
   refine AW.regionL envOk ?_;simp-dsimp-implicitDefEqProofs (disch:=omega)only[go_sem,prs,resCb,hcM,gd_c];refine⟨(1,G9,.hs 7 (m+1+3+6) 0 1),?_,fun _ _ h=>h,?_,?_⟩
   ·simp(disch:=omega) [wks,wkA,sl,w64,prs,prsP]<;>omega
   ·have hmk:LS 7 G9 nx (m+1+3+8) (.hs 7 (m+1+3+6) 0 1) 1 (homsC os pw cj ot qw dj (M.1.take 1)):=LS.mk (by rw[←hG9];simp(disch:=omega)only[upd_ne,upd_same];rw[tk1C os pw cj ot qw dj (by omega)];rfl) (by rw[homsC_len,List.length_take];omega) (by omega) (by omega)
    first|exact⟨⟨by first|omega|(simp only;omega)|(dsimp only;omega),by first|omega|(simp only;omega)|(dsimp only;omega)⟩,hmk.wide (Nat.le_refl _) (by first|omega|(simp only;omega)|(dsimp only;omega))⟩|exact⟨by first|omega|(simp only;omega)|(dsimp only;omega),hmk.wide (Nat.le_refl _) (by first|omega|(simp only;omega)|(dsimp only;omega))⟩
   first|omega|(simp only;omega)
  try simp only[cn]at h3
  refine AW.exit ?_;simp only[thn,blk,if_true];refine hN3 _ ?_;try clear hN3 N3
  refine AW.sr envOk (fun N hN=>?_);simp-dsimp-implicitDefEqProofs (disch:=omega)only[go_sem,prs,resCb,hcM,gd_c];refine hN _ ?_;try clear hN N
  refine AW.ret ?_;simp-dsimp-implicitDefEqProofs (disch:=omega)only[go_sem];rw[if_neg (by omega),if_neg (by omega)]
  have e0:M.1=[]:=List.length_eq_zero_iff.1 (by omega)
  refine Vw.t2 ?_
  rw[e0];exact .nl
 skip
 simp only[prsP,hcM];simp-dsimp-implicitDefEqProofs (disch:=omega)only[go_sem];refine AW.sr envOk (fun N hN=>?_);simp-dsimp-implicitDefEqProofs (disch:=omega)only[go_sem,prs,resCb,hcM,gd_c];refine hN _ ?_;try clear hN N
 refine AW.seq (fun N6 hN6=>?_);refine AW.cond rfl (fun h4=>?_) (fun h4=>?_)
 ·try simp only[cn]at h4
  refine AW.skip ?_;simp only[thn,blk];refine hN6 _ ?_;try clear hN6 N6
  refine AW.seq (fun N7 hN7=>?_);refine AW.block ?_;refine AW.sr envOk (fun N hN=>?_);simp-dsimp-implicitDefEqProofs (disch:=omega)only[go_sem,prs,resCb,hcM,gd_c];refine hN _ ?_;try clear hN N
  refine AW.regionL envOk ?_;simp-dsimp-implicitDefEqProofs (disch:=omega)only[go_sem,prs,resCb,hcM,gd_c];refine AC.pure (.of (hc1)) ?_;try simp-dsimp-implicitDefEqProofs (disch:=omega)only[go_sem,prs,resCb,hcM,gd_c]
  refine AC.pure (.of (hc2)) ?_;try simp-dsimp-implicitDefEqProofs (disch:=omega)only[go_sem,prs,hcM,gd_c,homC_ones,sz7,eq_self,true_and,hid,hln]
  refine hN7 _ ?_;try clear hN7 N7
  refine AW.nameH (fun G9 hG9=>?_);dsimp only at hG9
  refine AW.regionL envOk ?_;simp-dsimp-implicitDefEqProofs (disch:=omega)only[go_sem,prs,resCb,hcM,gd_c];refine⟨(k+1,G9,.hs 7 (m+1+3+6) 0 (k+1)),?_,fun _ _ h=>h,?_,?_⟩
  ·simp(disch:=omega) [wks,wkA,sl,w64,prs,prsP]<;>omega
  ·have hmk:LS 7 G9 nx (m+1+3+8) (.hs 7 (m+1+3+6) 0 (k+1)) (k+1) (homsC os pw cj ot qw dj (M.1.take (k+1))):=LS.mk (by rw[←hG9];simp(disch:=omega)only[upd_ne,upd_same];rw[tkC os pw cj ot qw dj (by omega),List.take_of_length_le (by omega)];rfl) (by rw[homsC_len,List.length_take];omega) (by omega) (by omega)
   first|exact⟨⟨by first|omega|(simp only;omega)|(dsimp only;omega),by first|omega|(simp only;omega)|(dsimp only;omega)⟩,hmk.wide (Nat.le_refl _) (by first|omega|(simp only;omega)|(dsimp only;omega))⟩|exact⟨by first|omega|(simp only;omega)|(dsimp only;omega),hmk.wide (Nat.le_refl _) (by first|omega|(simp only;omega)|(dsimp only;omega))⟩
  first|omega|(simp only;omega)
 try simp only[cn]at h4
 refine AW.exit ?_;simp only[thn,blk,if_true];refine hN3 _ ?_;try clear hN3 N3
 refine AW.sr envOk (fun N hN=>?_);simp-dsimp-implicitDefEqProofs (disch:=omega)only[go_sem,prs,resCb,hcM,gd_c];refine hN _ ?_;try clear hN N
 refine AW.ret ?_;simp-dsimp-implicitDefEqProofs (disch:=omega)only[go_sem];rw[if_neg (by omega),if_neg (by omega)]
 obtain rfl:k=M.1.length:=by omega
 rw[List.take_length]at hid
 exact Vw.t2 (.hs 7 id 0 _ _ _ hid (by rw[homsC_len];omega) (homsC_len _ _ _ _ _ _ _) fun q x y hx hy=>by rw[Nat.zero_add]at hx;rw[hx]at hy;cases hy;exact .refl _)
set_option maxHeartbeats 2000000 in
theorem spec_AllHoms_ok (hl:prlen os pw cj) (hl2:prlen ot qw dj):ACp Tryz.prog 8 [prs os pw cj,prs ot qw dj] (resHm os pw cj ot qw dj (alM os pw cj ot qw dj)):=by
 have hml:=hmM_len os pw cj ot qw dj
 have hlo:=hl.o
 have hlo2:=hl2.o
 have hct:=spec_CountHoms_ok os pw cj ot qw dj hl hl2
 rw[←hm_cnt,←hm_code]at hct
 obtain⟨M,hM⟩:∃M,hmM os pw cj ot qw dj=M:=⟨_,rfl⟩
 rw[hM]at hml hct
 unfold alM
 rw[hM]
 refine ACp.introV envOk Tryz.func8 rfl (by kernel_rfl) Tryz.ntmps8 Tryz.results8 ((resHm_nr _ _ _ _ _ _ _)) (fun nx cX=>?_)
 refine AW.sr envOk (fun N hN=>?_);simp-dsimp-implicitDefEqProofs (disch:=omega)only[go_sem,prs,ints,resN];refine hN _ ?_;try clear hN N
 refine AW.freezeQ 2 nx _ rfl ((upd_ne _ _ (by omega)).trans (upd_same _ _ _)) ?_
 simp-dsimp-implicitDefEqProofs (disch:=omega)only[go_sem];refine AW.freezeQ 3 (nx+1) _ rfl ((upd_ne _ _ (by omega)).trans (upd_same _ _ _)) ?_
 simp-dsimp-implicitDefEqProofs (disch:=omega)only[go_sem];refine AW.sr envOk (fun N hN=>?_);simp-dsimp-implicitDefEqProofs (disch:=omega)only[go_sem,prs,ints,resN];refine AC.pure (.of (hct)) ?_;try simp-dsimp-implicitDefEqProofs (disch:=omega)only[go_sem,prs,ints,resN]
 refine hN _ ?_;try clear hN N
 refine AW.seq (fun N1 hN1=>?_);refine AW.sr envOk (fun N hN=>?_);simp-dsimp-implicitDefEqProofs (disch:=omega)only[go_sem,prs,ints,resN];refine hN _ ?_;try clear hN N
 refine AW.cond rfl (fun h1=>?_) (fun h1=>?_)
 ·try simp only[cn]at h1
  refine AW.sr envOk (fun N hN=>?_);simp-dsimp-implicitDefEqProofs (disch:=omega)only[go_sem,prs,ints,resN];refine hN _ ?_;try clear hN N
  refine AW.ret ?_;simp-dsimp-implicitDefEqProofs (disch:=omega)only[go_sem];rw[if_pos (by omega)]
  exact Vw.t2 .nl
 try simp only[cn]at h1
 refine AW.skip ?_;simp only[thn,blk];refine hN1 _ ?_;try clear hN1 N1
 refine AW.seq (fun N2 hN2=>?_);refine AW.sr envOk (fun N hN=>?_);simp-dsimp-implicitDefEqProofs (disch:=omega)only[go_sem,prs,ints,resN];refine hN _ ?_;try clear hN N
 refine AW.cond rfl (fun h2=>?_) (fun h2=>?_)
 ·try simp only[cn]at h2
  refine AW.sr envOk (fun N hN=>?_);simp-dsimp-implicitDefEqProofs (disch:=omega)only[go_sem,prs,ints,resN];refine hN _ ?_;try clear hN N
  refine AW.ret ?_;simp-dsimp-implicitDefEqProofs (disch:=omega)only[go_sem];rw[if_neg (by omega),if_pos (by omega)]
  exact Vw.t2 .nl
 try simp only[cn]at h2
 have hok:grpP os pw cj∧grpP ot qw dj:=by
  apply Classical.byContradiction
  intro hn
  rw[hmM_1 os pw cj ot qw dj hn]at hM
  subst hM
  exact absurd h1 (by simp)
 have hle:hmT os ot≤4096:=by
  apply Classical.byContradiction
  intro hn
  rw[hmM_3 os pw cj ot qw dj hok hn]at hM
  subst hM
  exact absurd h1 (by simp)
 have hM2:=hmM_0 os pw cj ot qw dj hok hle
 rw[hM]at hM2
 obtain⟨⟨hp,hpc⟩,hq,hqc⟩:=hok
 have hpd:=hp.drw
 have hqd:=hq.drw
 have hn6:=hp.1.1
 have hpr:=hq.2.1
 have hq1:=prd_pos hpr ot.length (Nat.le_refl _)
 obtain⟨tt,htt⟩:∃tt,stq (prd ot ot.length) os.length=tt:=⟨_,rfl⟩
 have hb:=stq_bd hq1 hq.2.2.1 os.length
 rw[htt]at hb
 have htp:=spec_l16Tuples_ok os pw cj ot qw dj hn6 hq
 rw[htt]at htp
 unfold hmT at hle hM2
 rw[htt]at hle hM2
 have htu:=fun k h0 h9=>spec_l16Tuple_ok ot qw dj hq os.length (by omega) k h0 h9
 have hex:=fun k:Nat=>tupS_ex (os:=ot) (N:=prd ot ot.length) (num:=(k:Int)) (c:=os.length) hpr (by omega) hq1
 have hre:=fun k:Nat=>spec_l16Relators_ok os pw cj ot qw dj hp hq hqc (tupS ot (prd ot ot.length) os.length k) (hex k) (by rw[tup_len])
 have hpk:∀k:Nat,hldP (pc ot qw dj) (tupS ot (prd ot ot.length) os.length k) (rels os pw cj)=hmQ os pw cj ot qw dj k:=fun k=>rfl
 have hmk:=fun k:Nat=>spec_l16Make_ok os pw cj ot qw dj hlo hpd.p hpd.c hlo2 hqd.p hqd.c (tupS ot (prd ot ot.length) os.length k) (exs_rl (hex k) (by rw[tup_len];omega) (by have:=hq.1.1;omega))
 refine AW.skip ?_;simp only[thn,blk];refine hN2 _ ?_;try clear hN2 N2
 refine AW.sr envOk (fun N hN=>?_);simp-dsimp-implicitDefEqProofs (disch:=omega)only[go_sem,prs,ints,resN];refine hN _ ?_;try clear hN N
 refine AW.seq (fun N3 hN3=>?_);refine AW.sr envOk (fun N hN=>?_);simp-dsimp-implicitDefEqProofs (disch:=omega)only[go_sem,prs,ints,resN];refine hN _ ?_;try clear hN N
 refine AW.block ?_;refine AW.nameH (fun G0 hG0=>?_);dsimp only at hG0
 have h80:G0 (nx+4+8+2+2)=some []:=by rw[←hG0];simp(disch:=omega)only[upd_same]
 clear hG0
 refine AW.loopN (α:=Nat×HP×Nat) (fun x=>sl 48 [(2,prsP os pw cj),(3,prsP ot qw dj),(8,.hs 7 x.2.2 0 (homF os pw cj ot qw dj x.1).length),(9,.i .i64 x.1)]) (fun x=>x.2.1) (fun x m=>(x.1≤tt.toNat∧nx≤m∧x.2.2<m∧nx≤x.2.2)∧x.2.1 x.2.2=some (homsC os pw cj ot qw dj (homF os pw cj ot qw dj x.1))) (fun x=>tt.toNat-x.1) ((0,G0,nx+4+8+2+2)) ?_ ?_ (fun _ _ h=>h) ?_
 ·exact⟨⟨by simp,by first|omega|(simp only;omega)|(dsimp only;omega),by first|omega|(simp only;omega)|(dsimp only;omega),by first|omega|(simp only;omega)|(dsimp only;omega)⟩,h80⟩
 ·simp(disch:=omega) [wks,wkA,sl,prsP,ints,rows,cubes,homF]
 skip
 rintro⟨k,G,id⟩ m ⟨⟨hk,hm,hi1,hi2⟩,hid⟩
 dsimp only at hk hm hi1 hi2 hid ⊢
 have hhl:=homF_le os pw cj ot qw dj k
 have hcl:=homsC_len os pw cj ot qw dj (homF os pw cj ot qw dj k)
 simp only[prsP,ints];simp-dsimp-implicitDefEqProofs (disch:=omega)only[go_sem];refine AW.seq (fun N4 hN4=>?_);refine AW.sr envOk (fun N hN=>?_);simp-dsimp-implicitDefEqProofs (disch:=omega)only[go_sem,prs,ints,resN];refine AC.pure (.of (htp)) ?_;try simp-dsimp-implicitDefEqProofs (disch:=omega)only[go_sem,prs,ints,resN]
 refine hN _ ?_;try clear hN N
 refine AW.cond rfl (fun h3=>?_) (fun h3=>?_)
 ·try simp only[cn]at h3
  refine AW.skip ?_;simp only[thn,blk];refine hN4 _ ?_;try clear hN4 N4
  refine AW.seq (fun N5 hN5=>?_);refine AW.block ?_;refine AW.sr envOk (fun N hN=>?_);simp-dsimp-implicitDefEqProofs (disch:=omega)only[go_sem,prs,ints,resN];refine AC.pure (.of (htu k (by omega) (by omega))) ?_;try simp-dsimp-implicitDefEqProofs (disch:=omega)only[go_sem,prs,ints,resN]
  refine hN _ ?_;try clear hN N
  refine AW.sr envOk (fun N hN=>?_);simp-dsimp-implicitDefEqProofs (disch:=omega)only[go_sem,prs,ints,resN];refine AC.pure (.of (hre k)) ?_;try simp-dsimp-implicitDefEqProofs (disch:=omega)only[go_sem,prs,ints,resN]
  refine hN _ ?_;try clear hN N
  refine AW.cond rfl (fun h4=>?_) (fun h4=>?_)
  ·try simp only[cn]at h4
   have hhf:homF os pw cj ot qw dj (k+1)=homF os pw cj ot qw dj k++[tupS ot (prd ot ot.length) os.length k]:=by rw[homF,if_pos (tf_t (by rw[←hpk];exact h4))]
   refine AW.regionL envOk ?_;simp-dsimp-implicitDefEqProofs (disch:=omega)only[go_sem,prs,ints,resN];refine AC.pure (.of (hmk k)) ?_;try simp-dsimp-implicitDefEqProofs (disch:=omega)only[go_sem,prs,homC,homC_ones,sz7,eq_self,true_and,hid,hcl]
   refine hN5 _ ?_;try clear hN5 N5
   refine AW.nameH (fun G9 hG9=>?_);dsimp only at hG9
   refine AW.regionL envOk ?_;simp-dsimp-implicitDefEqProofs (disch:=omega)only[go_sem,prs,ints,resN];refine⟨(k+1,G9,m+5+7+4+6),?_,fun _ _ h=>h,?_,?_⟩
   ·simp(disch:=omega) [wks,wkA,sl,w64,prs,prsP,ints,hhf]<;>omega
   ·have hmkx:G9 (m+5+7+4+6)=some (homsC os pw cj ot qw dj (homF os pw cj ot qw dj (k+1))):=by rw[←hG9,hhf,homsC_app];simp(disch:=omega)only[upd_ne,upd_same];rw[List.take_of_length_le (by omega)];rfl
    first|exact⟨⟨by first|omega|(simp only;omega)|(dsimp only;omega),by first|omega|(simp only;omega)|(dsimp only;omega),by first|omega|(simp only;omega)|(dsimp only;omega),by first|omega|(simp only;omega)|(dsimp only;omega)⟩,hmkx⟩|exact⟨by first|omega|(simp only;omega)|(dsimp only;omega),hmkx⟩
   first|omega|(simp only;omega)
  try simp only[cn]at h4
  have hhf:homF os pw cj ot qw dj (k+1)=homF os pw cj ot qw dj k:=by rw[homF,if_neg (by rw[tf_f (by rw[←hpk];exact h4)];simp)]
  refine AW.skip ?_;simp only[thn,blk];refine hN5 _ ?_;try clear hN5 N5
  refine AW.nameH (fun G9 hG9=>?_);dsimp only at hG9
  refine AW.regionL envOk ?_;simp-dsimp-implicitDefEqProofs (disch:=omega)only[go_sem,prs,ints,resN];refine⟨(k+1,G9,id),?_,fun _ _ h=>h,?_,?_⟩
  ·simp(disch:=omega) [wks,wkA,sl,w64,prs,prsP,ints,hhf]<;>omega
  ·have hmkx:G9 id=some (homsC os pw cj ot qw dj (homF os pw cj ot qw dj (k+1))):=by rw[←hG9,hhf];exact hid
   first|exact⟨⟨by first|omega|(simp only;omega)|(dsimp only;omega),by first|omega|(simp only;omega)|(dsimp only;omega),by first|omega|(simp only;omega)|(dsimp only;omega),by first|omega|(simp only;omega)|(dsimp only;omega)⟩,hmkx⟩|exact⟨by first|omega|(simp only;omega)|(dsimp only;omega),hmkx⟩
  first|omega|(simp only;omega)
 try simp only[cn]at h3
 refine AW.exit ?_;simp only[thn,blk,if_true];refine hN3 _ ?_;try clear hN3 N3
 refine AW.sr envOk (fun N hN=>?_);simp-dsimp-implicitDefEqProofs (disch:=omega)only[go_sem,prs,ints,resN];refine hN _ ?_;try clear hN N
 refine AW.ret ?_;simp-dsimp-implicitDefEqProofs (disch:=omega)only[go_sem];rw[if_neg (by omega),if_neg (by omega),hM2,show tt.toNat=k by omega]
 exact Vw.t2 (.hs 7 id 0 _ _ _ hid (by omega) hcl fun q x y hx hy=>by rw[Nat.zero_add]at hx;rw[hx]at hy;cases hy;exact .refl _)
end
end Go.Proofs.YtghmeeifjeafmaaGreat
