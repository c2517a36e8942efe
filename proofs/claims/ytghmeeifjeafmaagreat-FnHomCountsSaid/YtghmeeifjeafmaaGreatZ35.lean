import Derived.Test.YtghmeeifjeafmaaGreatProg
import Derived.Lib.ItoaNum
import Derived.Lib.Join
import Derived.Lib.ParseIntB
import Derived.Lib.Bytealg
import Derived.Lib.ConvBytes
import Derived.RangeFuncIn
import Derived.Test.YtghmeeifjeafmaaGreatZ11
import Derived.Test.YtghmeeifjeafmaaGreatZ12
import Derived.Test.YtghmeeifjeafmaaGreatZ13
import Derived.Test.YtghmeeifjeafmaaGreatZ18
import Derived.Test.YtghmeeifjeafmaaGreatZ29
import Derived.Test.YtghmeeifjeafmaaGreatZ32
import Derived.Test.YtghmeeifjeafmaaGreatZ33
import Derived.Test.YtghmeeifjeafmaaGreatZ34
set_option linter.unusedVariables false
set_option linter.unusedSimpArgs false
namespace Go.Proofs.YtghmeeifjeafmaaGreat
open Nat (reduceAdd reduceSub reduceGT reduceEqDiff reduceMul)
theorem LC.vwA {H:HP} {a b:Nat} {L:AV} {cs:List AV} (h:LC H a b L cs):Vw H L (.v cs.length cs):=by
  rcases h with ⟨rfl,rfl⟩|⟨id,rfl,h0,_,_⟩
  · exact .nl
  exact .h id 0 _ cs cs h0 (by omega) rfl fun k x y hx hy=>by rw[Nat.zero_add]at hx;rw[hx]at hy;cases hy;exact .refl _
theorem LC.vwR {H:HP} {a b:Nat} {L:AV} {W:List (List Int)} (h:LC H a b L (W.map ints)):Vw H L (rows W):=by rw[rows_v];exact h.vwA
theorem LC.vwC {H:HP} {a b:Nat} {L:AV} {W:List (List (List Int))} (h:LC H a b L (W.map rows)):Vw H L (cubes W):=by rw[cubes_v];exact h.vwA
theorem tk_s {α:Type} (f:α→AV) {L:List α} {k:Nat} {d:α} (h:k<L.length):(L.take (k+1)).map f=(L.take k).map f++[f (L.getD k d)]:=by
  rw[List.take_succ_eq_append_getElem h,List.map_append]
  simp[h]
theorem clone_p (a:List Int) (ha:a.length≤1048576):ACp Tryz.prog 56 [ints a] (ints a):=ACo.pure (clone_o a (by omega))
theorem impl_copyRows_ok (W:List (List Int)) (hW:rowslen W):ACp Tryz.prog 57 [rows W] (rows W):=by
 have hl:=hW.n
 refine ACp.introV envOk Tryz.func57 rfl (by kernel_rfl) Tryz.ntmps57 Tryz.results57 ((rows_nr _)) (fun nx cX=>?_)
 refine AW.sr envOk (fun N hN=>?_);simp-dsimp-implicitDefEqProofs (disch:=omega)only[go_sem,rows,gd_r];refine hN _ ?_;try clear hN N
 refine AW.sr envOk (fun N hN=>?_);simp-dsimp-implicitDefEqProofs (disch:=omega)only[go_sem,rows,gd_r];refine hN _ ?_;try clear hN N
 refine AW.seq (fun N1 hN1=>?_);refine AW.sr envOk (fun N hN=>?_);simp-dsimp-implicitDefEqProofs (disch:=omega)only[go_sem,rows,gd_r];refine hN _ ?_;try clear hN N
 refine AW.block ?_;refine AW.loopN (α:=Nat×HP×AV) (fun x=>sl 19 [(3,x.2.2),(6,rows W),(7,.i .i64 W.length),(8,.i .i64 x.1)]) (fun x=>x.2.1) (fun x m=>(x.1≤W.length∧nx≤m)∧LC x.2.1 nx m x.2.2 ((W.take x.1).map ints)) (fun x=>W.length-x.1) ((0,noH,.nl)) ?_ ?_ (fun _ _ h=>h) ?_
 ·exact⟨⟨by simp,by first|omega|(simp only;omega)|(dsimp only;omega)⟩,.nil⟩
 ·simp(disch:=omega) [wks,wkA,sl,rows]
 skip
 rintro⟨k,G,L⟩ m ⟨⟨hk,hm⟩,hL⟩
 simp-dsimp-implicitDefEqProofs (disch:=omega)only[go_sem];dsimp only at hk hm hL ⊢
 have hLo:=hL.one
 have hLl:=hL.len
 have hLb:=hL.bd
 rw[List.length_map,List.length_take]at hLl
 refine AW.sr envOk (fun N hN=>?_);simp-dsimp-implicitDefEqProofs (disch:=omega)only[go_sem,rows,gd_r];refine hN _ ?_;try clear hN N
 refine AW.seq (fun N2 hN2=>?_);refine AW.cond rfl (fun h1=>?_) (fun h1=>?_)
 ·try simp only[cn]at h1
  have hkl:k<W.length:=by omega
  refine AW.skip ?_;simp only[thn,blk];refine hN2 _ ?_;try clear hN2 N2
  refine AW.seq (fun N3 hN3=>?_);refine AW.block ?_;refine AW.sr envOk (fun N hN=>?_);simp-dsimp-implicitDefEqProofs (disch:=omega)only[go_sem,rows,gd_r];refine hN _ ?_;try clear hN N
  refine AW.regionL envOk ?_;simp-dsimp-implicitDefEqProofs (disch:=omega)only[go_sem,rows,gd_r];refine AC.pure (.of (clone_p (W.getD k []) (getD_mem (P:=fun x:List Int=>x.length≤1048576) hW.v (by simp) k))) ?_
  try simp-dsimp-implicitDefEqProofs (disch:=(first|omega|((repeat refine LC.upd (by omega) ?_);assumption))) only[go_sem,rows,gd_r,hLo,hLl,apst_LC (a:=nx) (b:=m) (L:=L) (cs:=(W.take k).map ints),List.length_map,List.length_take]
  refine hN3 _ ?_;try clear hN3 N3
  refine AW.nameH (fun G3 hG3=>?_);dsimp only at hG3
  refine AW.regionL envOk ?_;simp-dsimp-implicitDefEqProofs (disch:=omega)only[go_sem,rows,gd_r];refine⟨(k+1,G3,.h (m+1+3+4) 0 (k+1)),?_,fun _ _ h=>h,?_,?_⟩
  ·simp(disch:=omega) [wks,wkA,sl,w64,rows,Nat.min_eq_left]<;>omega
  ·have hmk:LC G3 nx (m+1+3+6) (.h (m+1+3+4) 0 (k+1)) ((W.take (k+1)).map ints):=LC.mk (by rw[←hG3,tk_s ints (by omega) (d:=[])];simp(disch:=omega)only[upd_ne,upd_same]) (by rw[List.length_map,List.length_take];omega) (by omega) (by omega)
   first|exact⟨⟨by first|omega|(simp only;omega)|(dsimp only;omega),by first|omega|(simp only;omega)|(dsimp only;omega)⟩,hmk.wide (Nat.le_refl _) (by first|omega|(simp only;omega)|(dsimp only;omega))⟩|exact⟨by first|omega|(simp only;omega)|(dsimp only;omega),hmk.wide (Nat.le_refl _) (by first|omega|(simp only;omega)|(dsimp only;omega))⟩
  first|omega|(simp only;omega)
 try simp only[cn]at h1
 refine AW.exit ?_;simp only[thn,blk,if_true];refine hN1 _ ?_;try clear hN1 N1
 refine AW.sr envOk (fun N hN=>?_);simp-dsimp-implicitDefEqProofs (disch:=omega)only[go_sem,rows,gd_r];refine hN _ ?_;try clear hN N
 refine AW.ret ?_;simp-dsimp-implicitDefEqProofs (disch:=omega)only[go_sem];obtain rfl:k=W.length:=by omega
 rw[List.take_length]at hL
 exact hL.vwR
theorem spec_l01Own2_p (W:List (List Int)) (hW:rowslen W):ACp Tryz.prog 65 [rows W] (rows W):=by
  refine ACo.pure (fun nx=>(spec_l01Own2_w W hW nx).mono ?_)
  rintro nx' H' r ⟨cs,_,ids,h1,h2,h3⟩
  rw[←rows_v]at h1
  exact⟨ids,h1,h2,h3⟩
theorem spec_l07Own_p (os:List Int) (X:List (List Int)) (Y:List (List (List Int))) (h0:os.length≤1048576) (h1:rowslen X) (h2:cubeslen Y):ACp Tryz.prog 64 [prs os X Y] (prs os X Y):=by
  refine ACo.pure (fun nx=>(spec_l07Own_w os X Y h0 h1 h2 nx).mono ?_)
  rintro nx' H' r ⟨r0,P,B,cp,cb,rfl,h⟩
  exact h.1.own
def homC (os:List Int) (X:List (List Int)) (Y:List (List (List Int))) (ot:List Int) (Z:List (List Int)) (D:List (List (List Int))) (W:List (List Int)):List AV:=[ints os,rows X,cubes Y,ints ot,rows Z,cubes D,rows W]
section
variable (os:List Int) (X:List (List Int)) (Y:List (List (List Int))) (ot:List Int) (Z:List (List Int)) (D:List (List (List Int)))
def homsC (Ws:List (List (List Int))):List AV:=Ws.flatMap (homC os X Y ot Z D)
def homsA (Ws:List (List (List Int))):AV:= .v Ws.length (homsC os X Y ot Z D Ws)
theorem homsC_len:∀Ws:List (List (List Int)),(homsC os X Y ot Z D Ws).length=Ws.length*7:=by
  intro Ws
  induction Ws with
  |nil=>rfl
  |cons W Ws ih=>unfold homsC at ih ⊢;rw[List.flatMap_cons,List.length_append,ih,List.length_cons];simp[homC];omega
theorem homsC_app (Ws:List (List (List Int))) (W:List (List Int)):homsC os X Y ot Z D (Ws++[W])=homsC os X Y ot Z D Ws++homC os X Y ot Z D W:=by simp[homsC]
theorem homsC_drop:∀(Ws:List (List (List Int))) (k:Nat),k<Ws.length→((homsC os X Y ot Z D Ws).drop (k*7)).take 7=homC os X Y ot Z D (Ws.getD k []):=by
  intro Ws
  induction Ws with
  |nil=>intro k hk;simp at hk
  | cons W Ws ih=>
    intro k hk
    have e:homsC os X Y ot Z D (W::Ws)=homC os X Y ot Z D W++homsC os X Y ot Z D Ws:=by simp[homsC]
    rw[e]
    cases k with
    |zero=>simp[homC]
    | succ k=>
      have:=ih k (by simpa using hk)
      rw[show(k+1)*7=7+k*7 by omega,←List.drop_drop,show(homC os X Y ot Z D W++homsC os X Y ot Z D Ws).drop 7=homsC os X Y ot Z D Ws from by simp[homC],this]
      simp
theorem homsC_get (Ws:List (List (List Int))) (k j:Nat) (hk:k<Ws.length) (hj:j<7):(homsC os X Y ot Z D Ws).getD (k*7+j) .j=(homC os X Y ot Z D (Ws.getD k [])).getD j .j:=by
  have h:=homsC_drop os X Y ot Z D Ws k hk
  rw[←h]
  simp only[List.getD_eq_getElem?_getD]
  rw[List.getElem?_take,if_pos hj,List.getElem?_drop]
theorem NR.gs {xs:List AV} (h:∀x∈xs,NR x):NR (.g xs):= .g _ (fun k x hk=>h x (List.mem_of_getElem? hk))
theorem homA_nr (W:List (List Int)):NR (.g (homC os X Y ot Z D W)):=NR.gs (fun x hx=>by
  simp only[homC,List.mem_cons,List.not_mem_nil,or_false]at hx
  rcases hx with rfl|rfl|rfl|rfl|rfl|rfl|rfl
  · exact ints_nr _
  · exact rows_nr _
  · exact cubes_nr _
  · exact ints_nr _
  · exact rows_nr _
  · exact cubes_nr _
  exact rows_nr _)
theorem spec_l16Make_ok (h0:os.length≤1048576) (h1:rowslen X) (h2:cubeslen Y) (g0:ot.length≤1048576) (g1:rowslen Z) (g2:cubeslen D) (W:List (List Int)) (hW:rowslen W):ACp Tryz.prog 29 [prs os X Y,prs ot Z D,rows W] (.g (homC os X Y ot Z D W)):=by
 refine ACp.intro' envOk Tryz.func29 rfl (by kernel_rfl) Tryz.ntmps29 Tryz.results29 (homA_nr _ _ _ _ _ _ _) (fun nx cX=>?_)
 refine AW.sr envOk (fun N hN=>?_);simp-dsimp-implicitDefEqProofs (disch:=omega)only[go_sem,prs,homC];refine hN _ ?_;try clear hN N
 refine AW.freezeQ 3 nx [ints os,rows X,cubes Y] rfl (by simp(disch:=omega)only[upd_ne,upd_same]) ?_
 simp-dsimp-implicitDefEqProofs (disch:=omega)only[go_sem];refine AW.freezeQ 4 (nx+1) [ints ot,rows Z,cubes D] rfl (by simp(disch:=omega)only[upd_ne,upd_same]) ?_
 simp-dsimp-implicitDefEqProofs (disch:=omega)only[go_sem];refine AW.seq (fun N hN=>?_);refine AW.drawL envOk (by kernel_rfl) 7 (by kernel_rfl) ?_
 simp-dsimp-implicitDefEqProofs (disch:=omega)only[hr_nil,hr_one,hr_if,List.take_succ_cons,List.take_zero,List.drop_succ_cons,List.drop_zero,List.take_nil,List.drop_nil,go_sem,undef,prs,w64,homC];refine⟨_,.of (spec_l07Own_p os X Y h0 h1 h2),?_⟩
 try simp-dsimp-implicitDefEqProofs (disch:=omega)only[go_sem,prs,homC]
 refine⟨_,.of (spec_l07Own_p ot Z D g0 g1 g2),?_⟩
 try simp-dsimp-implicitDefEqProofs (disch:=omega)only[go_sem,prs,homC]
 refine⟨_,.of (spec_l01Own2_p W hW),?_⟩
 try simp-dsimp-implicitDefEqProofs (disch:=omega)only[go_sem,prs,homC]
 refine hN _ ?_;try clear hN N
 refine AW.ret ?_;simp-dsimp-implicitDefEqProofs (disch:=omega)only[go_sem];rfl
end
end Go.Proofs.YtghmeeifjeafmaaGreat
namespace Go.Proofs.YtghmeeifjeafmaaGreat
open Nat (reduceAdd reduceSub reduceGT reduceEqDiff reduceMul)
theorem one_ss (x:ByteArray):(∀z∈ [AV.s x],one z=true)=True:=by simp[one]
attribute [go_sem] one_ss
def strs (xs:List ByteArray):AV:= .v xs.length (xs.map .s)
theorem strs_nr (xs:List ByteArray):NR (strs xs):= .v _ _ fun k x hk=>by
  rw[List.getElem?_map]at hk
  obtain⟨y,_,rfl⟩:=Option.map_eq_some_iff.1 hk
  exact .s _
def ltr (l:Int):Int:=if l>0 then IntKind.u8.wrap (IntKind.i64.wrap (IntKind.i64.wrap (97+l)-1))else IntKind.u8.wrap (IntKind.i64.wrap (IntKind.i64.wrap (65-l)-1))
def wtx (w:List Int):ByteArray:=if w=[]then ⟨#[49]⟩else strOfNums (w.map ltr)
theorem wtx_size (w:List Int):(wtx w).size≤w.length+1:=by
  unfold wtx
  split
  · show 1≤_;omega
  rw[strOfNums_size,List.length_map];omega
theorem ltr_take {w:List Int} {k:Nat} (h:k<w.length):(w.map ltr).take (k+1)=(w.map ltr).take k++[ltr (w.getD k 0)]:=by
  rw[List.take_succ_eq_append_getElem (by simpa using h)]
  simp[h]
theorem tk_ml {α β:Type} (f:α→β) (K:List α):(K.map f).take K.length=K.map f:=by
  have h:=List.take_length (l:=K.map f)
  rwa [List.length_map]at h
theorem spec_l06Text_ok (w:List Int) (hw:w.length≤1048576):ACp Tryz.prog 169 [ints w] (.s (wtx w)):=by
 refine ACp.intro' envOk Tryz.func169 rfl (by kernel_rfl) Tryz.ntmps169 Tryz.results169 (.s _) (fun nx cX=>?_)
 refine AW.sr envOk (fun N hN=>?_);simp-dsimp-implicitDefEqProofs (disch:=omega)only[go_sem,ints,gd_i];refine hN _ ?_;try clear hN N
 refine AW.seq (fun N1 hN1=>?_);refine AW.sr envOk (fun N hN=>?_);simp-dsimp-implicitDefEqProofs (disch:=omega)only[go_sem,ints,gd_i];refine hN _ ?_;try clear hN N
 refine AW.cond rfl (fun h1=>?_) (fun h1=>?_)
 ·try simp only[cn]at h1
  refine AW.sr envOk (fun N hN=>?_);simp-dsimp-implicitDefEqProofs (disch:=omega)only[go_sem,ints,gd_i];refine hN _ ?_;try clear hN N
  refine AW.ret ?_;simp-dsimp-implicitDefEqProofs (disch:=omega)only[go_sem];rw[wtx,if_pos (List.length_eq_zero_iff.1 (by omega))]
 try simp only[cn]at h1
 refine AW.skip ?_;simp only[thn,blk];refine hN1 _ ?_;try clear hN1 N1
 refine AW.sr envOk (fun N hN=>?_);simp-dsimp-implicitDefEqProofs (disch:=omega)only[go_sem,ints,gd_i];refine hN _ ?_;try clear hN N
 refine AW.seq (fun N2 hN2=>?_);refine AW.sr envOk (fun N hN=>?_);simp-dsimp-implicitDefEqProofs (disch:=omega)only[go_sem,ints,gd_i];refine hN _ ?_;try clear hN N
 refine AW.block ?_;refine AW.loopN (α:=Nat×Nat×List Int) (fun x=>sl 42 [(0,ints w),(3,.h x.2.1 0 x.2.2.length),(4,.i .i64 x.1)]) (fun x=>upd noH x.2.1 (some (x.2.2.map (.i .u8)))) (fun x m=>(x.1≤w.length∧x.2.1<m)∧x.2.2=(w.map ltr).take x.1) (fun x=>w.length-x.1) ((0,nx+4,[])) ?_ ?_ (by intro d cs hd;simp only[upd,noH,List.map_nil]at hd ⊢;grind) ?_
 ·exact⟨⟨by omega,by first|omega|(simp only;omega)|(dsimp only;omega)⟩,by simp⟩
 ·simp(disch:=omega) [wks,wkA,sl,w64,ints,rows,cubes,ints,gd_i,w64]<;>omega
 skip
 rintro⟨k,id,K⟩ m ⟨⟨hk,hid⟩,hK⟩
 dsimp only at hk hid hK ⊢
 have hKl:K.length=k:=by rw[hK,List.length_take,List.length_map];omega
 refine AW.seq (fun N3 hN3=>?_);refine AW.sr envOk (fun N hN=>?_);simp-dsimp-implicitDefEqProofs (disch:=omega)only[go_sem,ints,gd_i];refine hN _ ?_;try clear hN N
 refine AW.cond rfl (fun h2=>?_) (fun h2=>?_)
 ·try simp only[cn]at h2
  refine AW.skip ?_;simp only[thn,blk];refine hN3 _ ?_;try clear hN3 N3
  refine AW.seq (fun N4 hN4=>?_);refine AW.block ?_;refine AW.sr envOk (fun N hN=>?_);simp-dsimp-implicitDefEqProofs (disch:=omega)only[go_sem,ints,gd_i];refine hN _ ?_;try clear hN N
  refine AW.cond rfl (fun h3=>?_) (fun h3=>?_)
  ·try simp only[cn]at h3
   have h3':w.getD k 0>0:=by omega
   refine AW.regionL envOk ?_;simp-dsimp-implicitDefEqProofs (disch:=omega)only[go_sem,ints,gd_i];refine hN4 _ ?_;try clear hN4 N4
   refine AW.regionL envOk ?_;simp-dsimp-implicitDefEqProofs (disch:=omega)only[go_sem,ints,gd_i];skip
   refine⟨(k+1,m+4+5+9,K++[ltr (w.getD k 0)]),?_,by intro d cs hd;simp only[upd,noH,tk_map,List.map_append,List.map_cons,List.map_nil,ltr,if_pos h3']at hd ⊢;grind,?_,?_⟩
   ·simp(disch:=omega) [wks,wkA,sl,w64,ints,rows,cubes,ints,gd_i,w64]<;>omega
   ·exact⟨⟨by omega,by first|omega|(simp only;omega)|(dsimp only;omega)⟩,by simp only[];rw[ltr_take (by omega),hK]⟩
   first|omega|(simp only;omega)
  try simp only[cn]at h3
  have h3':¬w.getD k 0>0:=by omega
  refine AW.regionL envOk ?_;simp-dsimp-implicitDefEqProofs (disch:=omega)only[go_sem,ints,gd_i];refine hN4 _ ?_;try clear hN4 N4
  refine AW.regionL envOk ?_;simp-dsimp-implicitDefEqProofs (disch:=omega)only[go_sem,ints,gd_i];skip
  refine⟨(k+1,m+4+5+9,K++[ltr (w.getD k 0)]),?_,by intro d cs hd;simp only[upd,noH,tk_map,List.map_append,List.map_cons,List.map_nil,ltr,if_neg h3']at hd ⊢;grind,?_,?_⟩
  ·simp(disch:=omega) [wks,wkA,sl,w64,ints,rows,cubes,ints,gd_i,w64]<;>omega
  ·exact⟨⟨by omega,by first|omega|(simp only;omega)|(dsimp only;omega)⟩,by simp only[];rw[ltr_take (by omega),hK]⟩
  first|omega|(simp only;omega)
 try simp only[cn]at h2
 refine AW.exit ?_;simp only[thn,blk,if_true];refine hN2 _ ?_;try clear hN2 N2
 refine AW.sr envOk (fun N hN=>?_);simp-dsimp-implicitDefEqProofs (disch:=omega)only[go_sem,ints,gd_i,tk_ml,byN_map];refine hN _ ?_;try clear hN N
 refine AW.ret ?_;simp-dsimp-implicitDefEqProofs (disch:=omega)only[go_sem];have hw0:w≠ []:=by rintro rfl;simp at h1
 have hfin:K=w.map ltr:=by rw[hK,show k=(w.map ltr).length by rw[List.length_map];omega,List.take_length]
 rw[wtx,if_neg hw0,hfin]
def dg (n:Int):ByteArray:=⟨(Lib.decDigits n.toNat).toArray⟩
theorem dg_s {n:Int} (h0:0≤n) (h1:n<10):strOfNums [IntKind.u8.wrap (48+n)]=dg n:=by
  have h:n=0∨n=1∨n=2∨n=3∨n=4∨n=5∨n=6∨n=7∨n=8∨n=9:=by omega
  rcases h with rfl|rfl|rfl|rfl|rfl|rfl|rfl|rfl|rfl|rfl<;>(unfold dg Lib.decDigits;rfl)
theorem dg_size {n:Int} (h0:0≤n) (h1:n<10):(dg n).size=1:=by rw[←dg_s h0 h1,strOfNums_size];rfl
theorem spec_l01Dec_ok (n:Int) (h0:0≤n) (hn:n<10):ACp Tryz.prog 167 [.i .i64 n] (.s (dg n)):=by
 refine ACp.intro' envOk Tryz.func167 rfl (by kernel_rfl) Tryz.ntmps167 Tryz.results167 (.s _) (fun nx cX=>?_)
 refine AW.sr envOk (fun N hN=>?_);simp-dsimp-implicitDefEqProofs (disch:=omega)only[go_sem];refine hN _ ?_;try clear hN N
 refine AW.seq (fun N1 hN1=>?_);refine AW.sr envOk (fun N hN=>?_);simp-dsimp-implicitDefEqProofs (disch:=omega)only[go_sem];refine hN _ ?_;try clear hN N
 refine AW.cond rfl (fun h1=>?_) (fun h1=>?_)
 ·try simp only[cn]at h1
  refine AW.sr envOk (fun N hN=>?_);simp-dsimp-implicitDefEqProofs (disch:=omega)only[go_sem,byN,List.map_cons,List.map_nil];refine hN _ ?_;try clear hN N
  refine AW.ret ?_;simp-dsimp-implicitDefEqProofs (disch:=omega)only[go_sem];rw[←dg_s h0 hn]
 try simp only[cn]at h1
 exfalso;omega
end Go.Proofs.YtghmeeifjeafmaaGreat
namespace Go.Proofs.YtghmeeifjeafmaaGreat
open Nat (reduceAdd reduceSub reduceGT reduceEqDiff reduceMul)
theorem ib (c:UInt8):∀l:List UInt8,(l.count c=0∧Lib.indexByte l c= -1)∨∃m:Nat,Lib.indexByte l c=m∧m<l.length∧l.count c=1+(l.drop (m+1)).count c:=by
  intro l
  induction l with
  |nil=>exact .inl ⟨rfl,rfl⟩
  | cons b l ih=>
    by_cases hb:b=c
    · subst hb
      exact .inr ⟨0,by simp[Lib.indexByte],by simp,by simp;omega⟩
    have hne:(b==c)=false:=by simpa using hb
    have hc:(b::l).count c=l.count c:=List.count_cons_of_ne hb
    rcases ih with ⟨h1,h2⟩|⟨m,h1,h2,h3⟩
    · exact .inl ⟨by rw[hc,h1],by simp[Lib.indexByte,hne,h2]⟩
    refine .inr ⟨m+1,?_,by simpa using h2,by rw[hc,h3];rfl⟩
    have:¬((m:Int)= -1):=by omega
    simp[Lib.indexByte,hne,h1,this]
def cnt (c:UInt8) (s:ByteArray):Nat:=s.data.toList.count c
def cutAt (c:UInt8) (s:ByteArray):Nat:=(Lib.indexByte s.data.toList c).toNat
def rst (c:UInt8):Nat→ByteArray→ByteArray
  |0,s=>s
  |k+1,s=>(rst c k s).extract (cutAt c (rst c k s)+1) (rst c k s).size
def pcs (c:UInt8):Nat→ByteArray→List ByteArray
  |0,_=>[]
  |k+1,s=>pcs c k s++[(rst c k s).extract 0 (cutAt c (rst c k s))]
def spw (c:UInt8) (s:ByteArray):List ByteArray:=pcs c (cnt c s) s++[rst c (cnt c s) s]
theorem pcs_len (c:UInt8) (s:ByteArray):∀k,(pcs c k s).length=k:=by
  intro k
  induction k with
  |zero=>rfl
  |succ k ih=>rw[pcs,List.length_append,ih];rfl
theorem ext_l (s:ByteArray) (a b:Nat):(s.extract a b).data.toList=(s.data.toList.drop a).take (b-a):=by
  rw[ByteArray.data_extract,Array.toList_extract]
theorem cut_pos {c:UInt8} {s:ByteArray} (h:0<cnt c s):Lib.indexByte s.data.toList c=(cutAt c s:Int)∧cutAt c s<s.size∧cnt c s=1+cnt c (s.extract (cutAt c s+1) s.size):=by
  rcases ib c s.data.toList with ⟨h1,_⟩|⟨m,h1,h2,h3⟩
  · unfold cnt at h;omega
  have hm:cutAt c s=m:=by unfold cutAt;rw[h1];rfl
  rw[hm]
  have hsz:s.data.toList.length=s.size:=by rw[Array.length_toList];rfl
  refine⟨h1,by omega,?_⟩
  unfold cnt
  rw[ext_l,List.take_of_length_le (by rw[List.length_drop];omega)]
  exact h3
theorem rst_cnt (c:UInt8) (s:ByteArray):∀k,k≤cnt c s→cnt c (rst c k s)=cnt c s-k:=by
  intro k
  induction k with
  |zero=>intro _;rfl
  | succ k ih=>
    intro hk
    have h1:=ih (by omega)
    have h2:=(cut_pos (c:=c) (s:=rst c k s) (by omega)).2.2
    rw[rst];omega
theorem cnt_sz (c:UInt8) (s:ByteArray):cnt c s≤s.size:=by
  have:=List.count_le_length (a:=c) (l:=s.data.toList)
  have hsz:s.data.toList.length=s.size:=by rw[Array.length_toList];rfl
  unfold cnt;omega
theorem spw_len (c:UInt8) (s:ByteArray):(spw c s).length=cnt c s+1:=by
  unfold spw;rw[List.length_append,pcs_len];rfl
theorem vw_hall {H:HP} {id n:Nat} {cs:List AV} (hn:cs.length=n):Vw (upd H id (some cs)) (.h id 0 n) (.v n cs):=
  .h id 0 n cs cs (upd_same _ _ _) (by omega) hn fun k x y hx hy=>by rw[Nat.zero_add]at hx;rw[hx]at hy;cases hy;exact .refl _
theorem rst_step (c:UInt8) (s:ByteArray):∀k,rst c (k+1) s=rst c k (s.extract (cutAt c s+1) s.size):=by
  intro k
  induction k with
  |zero=>rfl
  |succ k ih=>rw[rst,ih,rst]
theorem pcs_step (c:UInt8) (s:ByteArray):∀k,pcs c (k+1) s=s.extract 0 (cutAt c s)::pcs c k (s.extract (cutAt c s+1) s.size):=by
  intro k
  induction k with
  |zero=>rfl
  |succ k ih=>rw[pcs,ih,rst_step,pcs];rfl
theorem spw_step {c:UInt8} {s:ByteArray} (h:0<cnt c s):spw c s=s.extract 0 (cutAt c s)::spw c (s.extract (cutAt c s+1) s.size):=by
  have h2:=(cut_pos h).2.2
  obtain⟨n,hn⟩:∃n,cnt c s=n+1:=⟨cnt c s-1,by omega⟩
  have h3:cnt c (s.extract (cutAt c s+1) s.size)=n:=by omega
  unfold spw
  rw[hn,h3,pcs_step,rst_step];rfl
theorem spw_zero {c:UInt8} {s:ByteArray} (h:cnt c s=0):spw c s=[s]:=by
  unfold spw;rw[h];rfl
theorem indexByte_app {c:UInt8} (ys:List UInt8):∀xs:List UInt8,xs.count c=0→Lib.indexByte (xs++c::ys) c=xs.length:=by
  intro xs
  induction xs with
  |nil=>intro _;simp[Lib.indexByte]
  | cons x xs ih=>
    intro h
    rw[List.count_cons]at h
    have hx:(x==c)=false:=by
      cases hq:x==c with
      |false=>rfl
      |true=>rw[hq]at h;simp at h
    have h1:=ih (by omega)
    have:¬((xs.length:Int)= -1):=by omega
    simp[Lib.indexByte,hx,h1,this]
def ofL (l:List UInt8):ByteArray:=⟨l.toArray⟩
theorem ofL_l (l:List UInt8):(ofL l).data.toList=l:=rfl
theorem ofL_to (s:ByteArray):ofL s.data.toList=s:=by cases s;simp[ofL]
theorem ofL_ext (l:List UInt8) (a b:Nat):(ofL l).extract a b=ofL ((l.drop a).take (b-a)):=by
  rw[←ofL_to ((ofL l).extract a b),ext_l];rfl
theorem ofL_sz (l:List UInt8):(ofL l).size=l.length:=by
  show l.toArray.size=l.length;simp
def jnc (c:UInt8):List (List UInt8)→List UInt8
  |[]=>[]
  |[x]=>x
  |x::y::xs=>x++c::jnc c (y::xs)
theorem spw_jnc (c:UInt8):∀ps:List (List UInt8),ps≠ []→(∀p,p∈ps→p.count c=0)→spw c (ofL (jnc c ps))=ps.map ofL:=by
  intro ps
  induction ps with
  |nil=>intro h;exact absurd rfl h
  | cons x xs ih=>
    intro _ hp
    have hx:=hp x (List.mem_cons_self ..)
    cases xs with
    |nil=>rw[jnc,spw_zero (by unfold cnt;rw[ofL_l];exact hx)];rfl
    | cons y xs=>
      have hi:=indexByte_app (c:=c) (jnc c (y::xs)) x hx
      have hc:cutAt c (ofL (jnc c (x::y::xs)))=x.length:=by
        unfold cutAt;rw[ofL_l,jnc,hi];rfl
      have hpos:0<cnt c (ofL (jnc c (x::y::xs))):=by
        unfold cnt;rw[ofL_l,jnc,List.count_append,List.count_cons];simp;omega
      rw[spw_step hpos,hc,ofL_ext,ofL_ext,ofL_sz,List.drop_zero,Nat.sub_zero,jnc,List.take_left,List.map_cons,←ih (by simp) (fun p h=>hp p (List.mem_cons_of_mem _ h))]
      congr 2
      rw[show x++c::jnc c (y::xs)=(x++[c])++jnc c (y::xs) by simp,show x.length+1=(x++[c]).length by simp,List.drop_left]
      congr 1
      exact List.take_of_length_le (by simp;omega)
theorem toL_eq {a b:List UInt8}:(ofL a).toList=(ofL b).toList↔a=b:=by
  rw[ByteArray.toList_eq,ByteArray.toList_eq];exact Iff.rfl
theorem strs_ofL (ps:List (List UInt8)) {k:Nat} (h:k<ps.length):((ps.map ofL).map AV.s).getD k .j= .s (ofL (ps.getD k [])):=by simp[h]
theorem le_one {H:HP} {id:Nat} {c:List AV} (h:H id=some c):∀i cs,upd noH id (some c) i=some cs→H i=some cs:=by
  intro i cs hd
  simp only[upd]at hd
  split at hd
  · rename_i e;subst e;rw[h];exact hd
  cases hd
theorem itn1:Int.toNat 1=1:=rfl
theorem itn2:Int.toNat 2=2:=rfl
end Go.Proofs.YtghmeeifjeafmaaGreat
