import Derived.Test.YtlcddiojeghfgaaGreatDoorZ10
import Derived.Test.YtlcddiojeghfgaaGreatDoorZ14
import Derived.Test.YtlcddiojeghfgaaGreatDoorZ15
set_option linter.unusedVariables false
set_option linter.unusedSimpArgs false
namespace Go.Proofs.YtlcddiojeghfgaaGreatDoor
open Nat (reduceAdd reduceSub reduceGT reduceEqDiff reduceMul)
theorem Step.of_below {L:LM} {w w':World} (h:RowKit.Below w.heap.size w w'):Step L noH w L noH w':=
  ⟨fun _ _ h=>h,h.os,h.tape,h.output,h.size,fun b hb _=>h.block b hb,fun _ _ h=>h⟩
theorem args2 {L:LM} {w:World} {M:Nat→Prop} {x y:AV} {us:Array Value} (h:ArgsR L w M [x,y] us):∃u v,us=#[u,v]∧R L w M x u∧R L w M y v:=by
  obtain⟨h1,h2⟩:=h
  obtain⟨l⟩:=us
  match l,h1 with
  |[u,v],_=>exact⟨u,v,rfl,h2 0 x rfl,h2 1 y rfl⟩
theorem strconv_FormatInt_s (i:Nat) (hi:i<100):ACp Tryz.prog 25 [.i .i64 i,.i .i64 10] (.s ⟨(Lib.decDigits i).toArray⟩):=by
  refine⟨⟨_,Tryz.func25,by kernel_rfl,by kernel_rfl⟩,fun L M w us hM hn ha=> ?_⟩
  obtain⟨u,v,rfl,h1,h2⟩:=args2 ha
  rw[h1.i_inv,h2.i_inv]
  exact(Tryz.strconv_FormatInt_10_small i hi w).mono (by rintro e w' ⟨rfl,rfl⟩;exact⟨_,rfl,Step.refl _ _ _,.s _⟩)
theorem one_ss (x:ByteArray):(∀z∈ [AV.s x],one z=true)=True:=by simp[one]
attribute [go_sem] one_ss
def strs (xs:List ByteArray):AV:= .v xs.length (xs.map .s)
theorem strs_nr (xs:List ByteArray):NR (strs xs):= .v _ _ fun k x hk=>by
  rw[List.getElem?_map]at hk
  obtain⟨y,_,rfl⟩:=Option.map_eq_some_iff.1 hk
  exact .s _
theorem strings_Join_s (xs:List ByteArray) (sep:ByteArray) (hN:xs.length≤140737488355328) (hlen:(Lib.join (xs.map (·.data.toList)) sep.data.toList).length≤140737488355328):
    ACp Tryz.prog 27 [strs xs,.s sep] (.s ⟨(Lib.join (xs.map (·.data.toList)) sep.data.toList).toArray⟩):=by
  refine⟨⟨_,Tryz.func27,by kernel_rfl,by kernel_rfl⟩,fun L M w us hM hn ha=> ?_⟩
  obtain⟨u,v,rfl,h1,h2⟩:=args2 ha
  rw[h2.s_inv]
  have key:∀(a:Option Addr) (n cp:Nat),n=xs.length→(n≠0→∃b off,a=some ⟨b,off,none⟩∧b<w.heap.size∧n≤cp∧∀(j:Nat) x,xs[j]? =some x→w.cell? ⟨b,off+j,none⟩=some (.string x))→
      Calls Tryz.prog 27 #[.slice a n cp,.string sep] w fun e w'=>∃u,e= .returned u∧Step L noH w L noH w'∧R L w' M (.s ⟨(Lib.join (xs.map (·.data.toList)) sep.data.toList).toArray⟩) u:=by
    intro a n cp hn hc
    by_cases h0:n=0
    · have hx:xs=[]:=List.length_eq_zero_iff.1 (by omega)
      subst hx h0
      exact(Tryz.strings_Join_none a cp sep w).mono (by rintro e w' ⟨rfl,rfl⟩;exact⟨_,rfl,Step.refl _ _ _,.s _⟩)
    · obtain⟨b,off,rfl,hb,hcp,hcell⟩:=hc h0
      subst hn
      exact(Tryz.strings_Join b off cp xs sep w hcell hb hN hcp hlen).mono (by rintro e w' ⟨rfl,hB⟩;exact⟨_,rfl,Step.of_below hB,.s _⟩)
  unfold strs at h1
  generalize hn:xs.length=n at h1
  generalize hcs:xs.map AV.s=cs at h1
  cases h1 with
  | v0 a cp=>
    exact key a 0 cp hn.symm (fun h=>absurd rfl h)
  | v _ _ b off cp arr e f us' hM' hb hn' hu hr=>
    refine key _ n cp hn.symm fun _=>⟨b,off,rfl,getElem?_lt hb,hn',fun j x hx=> ?_⟩
    have hcj:cs[j]? =some (.s x):=by rw[←hcs,List.getElem?_map,hx];rfl
    have:=(hr j _ hcj).s_inv
    rw[←this]
    exact cell_of hb (hu j (List.getElem?_eq_some_iff.1 hcj).1)
def ltr (l:Int):Int:=if l>0 then IntKind.u8.wrap (IntKind.i64.wrap (IntKind.i64.wrap (97+l)-1))else IntKind.u8.wrap (IntKind.i64.wrap (IntKind.i64.wrap (65-l)-1))
def wtx (w:List Int):ByteArray:=if w=[]then ⟨#[49]⟩else strOfNums (w.map ltr)
theorem wtx_size (w:List Int):(wtx w).size≤w.length+1:=by
  unfold wtx
  split
  · show 1≤_;omega
  · rw[strOfNums_size,List.length_map];omega
theorem ltr_take {w:List Int} {k:Nat} (h:k<w.length):(w.map ltr).take (k+1)=(w.map ltr).take k++[ltr (w.getD k 0)]:=by
  rw[List.take_succ_eq_append_getElem (by simpa using h)]
  simp[h]
theorem tk_ml {α β:Type} (f:α→β) (K:List α):(K.map f).take K.length=K.map f:=by
  have h:=List.take_length (l:=K.map f)
  rwa [List.length_map]at h
theorem spec_l06Text_ok (w:List Int) (hw:w.length≤1048576):ACp Tryz.prog 31 [ints w] (.s (wtx w)):=by
 refine ACp.intro' envOk Tryz.func31 rfl (by kernel_rfl) Tryz.ntmps31 Tryz.results31 (.s _) (fun nx cX=> ?_)
 refine AW.sr envOk (fun N hN=> ?_)
 simp-dsimp-implicitDefEqProofs (disch:=omega) only[go_sem,undef,ints,gd_i,w64]
 refine hN _ ?_
 try clear hN N
 refine AW.seq (fun N1 hN1=> ?_)
 refine AW.sr envOk (fun N hN=> ?_)
 simp-dsimp-implicitDefEqProofs (disch:=omega) only[go_sem,undef,ints,gd_i,w64]
 refine hN _ ?_
 try clear hN N
 refine AW.cond rfl (fun h1=> ?_) (fun h1=> ?_)
 ·try simp only[cn]at h1
  refine AW.sr envOk (fun N hN=> ?_)
  simp-dsimp-implicitDefEqProofs (disch:=omega) only[go_sem,undef,ints,gd_i,w64]
  refine hN _ ?_
  try clear hN N
  refine AW.ret ?_
  simp-dsimp-implicitDefEqProofs (disch:=omega) only[go_sem,undef]
  rw[wtx,if_pos (List.length_eq_zero_iff.1 (by omega))]
 ·try simp only[cn]at h1
  refine AW.skip ?_
  simp only[thn,blk]
  refine hN1 _ ?_
  try clear hN1 N1
  refine AW.sr envOk (fun N hN=> ?_)
  simp-dsimp-implicitDefEqProofs (disch:=omega) only[go_sem,undef,ints,gd_i,w64]
  refine hN _ ?_
  try clear hN N
  refine AW.seq (fun N2 hN2=> ?_)
  refine AW.sr envOk (fun N hN=> ?_)
  simp-dsimp-implicitDefEqProofs (disch:=omega) only[go_sem,undef,ints,gd_i,w64]
  refine hN _ ?_
  try clear hN N
  refine AW.block ?_
  refine AW.loopN (α:=Nat×Nat×List Int) (fun x=>sl 42 [(0,ints w),(3,.h x.2.1 0 x.2.2.length),(4,.i .i64 x.1)]) (fun x=>upd noH x.2.1 (some (x.2.2.map (.i .u8)))) (fun x m=>(x.1≤w.length∧x.2.1<m)∧x.2.2=(w.map ltr).take x.1) (fun x=>w.length-x.1) ((0,nx+4,[])) ?_ ?_ (by intro d cs hd;simp only[upd,noH,List.map_nil]at hd ⊢;grind) ?_
  ·exact⟨⟨by omega,by first|omega|(simp only;omega)|(dsimp only;omega)⟩,by simp⟩
  ·simp(disch:=omega) [wks,wkA,sl,w64,ints,rows,cubes,ints,gd_i,w64]<;>omega
  ·skip
   rintro⟨k,id,K⟩ m ⟨⟨hk,hid⟩,hK⟩
   dsimp only at hk hid hK ⊢
   have hKl:K.length=k:=by rw[hK,List.length_take,List.length_map];omega
   refine AW.seq (fun N3 hN3=> ?_)
   refine AW.sr envOk (fun N hN=> ?_)
   simp-dsimp-implicitDefEqProofs (disch:=omega) only[go_sem,undef,ints,gd_i,w64]
   refine hN _ ?_
   try clear hN N
   refine AW.cond rfl (fun h2=> ?_) (fun h2=> ?_)
   ·try simp only[cn]at h2
    refine AW.skip ?_
    simp only[thn,blk]
    refine hN3 _ ?_
    try clear hN3 N3
    refine AW.seq (fun N4 hN4=> ?_)
    refine AW.block ?_
    refine AW.sr envOk (fun N hN=> ?_)
    simp-dsimp-implicitDefEqProofs (disch:=omega) only[go_sem,undef,ints,gd_i,w64]
    refine hN _ ?_
    try clear hN N
    refine AW.cond rfl (fun h3=> ?_) (fun h3=> ?_)
    ·try simp only[cn]at h3
     have h3':w.getD k 0>0:=by omega
     refine AW.regionL envOk ?_
     simp-dsimp-implicitDefEqProofs (disch:=omega) only[go_sem,undef,ints,gd_i,w64]
     refine hN4 _ ?_
     try clear hN4 N4
     refine AW.regionL envOk ?_
     simp-dsimp-implicitDefEqProofs (disch:=omega) only[go_sem,undef,ints,gd_i,w64]
     skip
     refine⟨(k+1,m+4+5+9,K++[ltr (w.getD k 0)]),?_,by intro d cs hd;simp only[upd,noH,tk_map,List.map_append,List.map_cons,List.map_nil,ltr,if_pos h3']at hd ⊢;grind,?_,?_⟩
     ·simp(disch:=omega) [wks,wkA,sl,w64,ints,rows,cubes,ints,gd_i,w64]<;>omega
     ·exact⟨⟨by omega,by first|omega|(simp only;omega)|(dsimp only;omega)⟩,by simp only[];rw[ltr_take (by omega),hK]⟩
     ·first|omega|(simp only;omega)
    ·try simp only[cn]at h3
     have h3':¬w.getD k 0>0:=by omega
     refine AW.regionL envOk ?_
     simp-dsimp-implicitDefEqProofs (disch:=omega) only[go_sem,undef,ints,gd_i,w64]
     refine hN4 _ ?_
     try clear hN4 N4
     refine AW.regionL envOk ?_
     simp-dsimp-implicitDefEqProofs (disch:=omega) only[go_sem,undef,ints,gd_i,w64]
     skip
     refine⟨(k+1,m+4+5+9,K++[ltr (w.getD k 0)]),?_,by intro d cs hd;simp only[upd,noH,tk_map,List.map_append,List.map_cons,List.map_nil,ltr,if_neg h3']at hd ⊢;grind,?_,?_⟩
     ·simp(disch:=omega) [wks,wkA,sl,w64,ints,rows,cubes,ints,gd_i,w64]<;>omega
     ·exact⟨⟨by omega,by first|omega|(simp only;omega)|(dsimp only;omega)⟩,by simp only[];rw[ltr_take (by omega),hK]⟩
     ·first|omega|(simp only;omega)
   ·try simp only[cn]at h2
    refine AW.exit ?_
    simp only[thn,blk,if_true]
    refine hN2 _ ?_
    try clear hN2 N2
    refine AW.sr envOk (fun N hN=> ?_)
    simp-dsimp-implicitDefEqProofs (disch:=omega) only[go_sem,undef,ints,gd_i,w64,tk_ml,byN_map]
    refine hN _ ?_
    try clear hN N
    refine AW.ret ?_
    simp-dsimp-implicitDefEqProofs (disch:=omega) only[go_sem,undef]
    have hw0:w≠ []:=by rintro rfl;simp at h1
    have hfin:K=w.map ltr:=by rw[hK,show k=(w.map ltr).length by rw[List.length_map];omega,List.take_length]
    rw[wtx,if_neg hw0,hfin]
theorem byN_nil:byN []=[]:=rfl
theorem impl_wordText_ok (w:List Int) (hw:w.length≤1048576):ACp Tryz.prog 26 [ints w] (.s (wtx w)):=by
 refine ACp.intro' envOk Tryz.func26 rfl (by kernel_rfl) Tryz.ntmps26 Tryz.results26 (.s _) (fun nx cX=> ?_)
 refine AW.sr envOk (fun N hN=> ?_)
 simp-dsimp-implicitDefEqProofs (disch:=omega) only[go_sem,undef,ints,gd_i,w64]
 refine hN _ ?_
 try clear hN N
 refine AW.seq (fun N1 hN1=> ?_)
 refine AW.sr envOk (fun N hN=> ?_)
 simp-dsimp-implicitDefEqProofs (disch:=omega) only[go_sem,undef,ints,gd_i,w64]
 refine hN _ ?_
 try clear hN N
 refine AW.cond rfl (fun h1=> ?_) (fun h1=> ?_)
 ·try simp only[cn]at h1
  refine AW.sr envOk (fun N hN=> ?_)
  simp-dsimp-implicitDefEqProofs (disch:=omega) only[go_sem,undef,ints,gd_i,w64]
  refine hN _ ?_
  try clear hN N
  refine AW.ret ?_
  simp-dsimp-implicitDefEqProofs (disch:=omega) only[go_sem,undef]
  rw[wtx,if_pos (List.length_eq_zero_iff.1 (by omega))]
 ·try simp only[cn]at h1
  refine AW.skip ?_
  simp only[thn,blk]
  refine hN1 _ ?_
  try clear hN1 N1
  refine AW.sr envOk (fun N hN=> ?_)
  simp-dsimp-implicitDefEqProofs (disch:=omega) only[go_sem,undef,ints,gd_i,w64]
  refine hN _ ?_
  try clear hN N
  refine AW.seq (fun N2 hN2=> ?_)
  refine AW.sr envOk (fun N hN=> ?_)
  simp-dsimp-implicitDefEqProofs (disch:=omega) only[go_sem,undef,ints,gd_i,w64]
  refine hN _ ?_
  try clear hN N
  refine AW.block ?_
  refine AW.loopN (α:=Nat×Option Nat×List Int) (fun x=>sl 34 [(3,oA x.2.1 x.2.2.length),(9,ints w),(10,.i .i64 w.length),(11,.i .i64 x.1)]) (fun x=>oH noH x.2.1 (x.2.2.map (.i .u8))) (fun x m=>(x.1≤w.length∧(x.2.1=none→x.2.2=[]))∧(∀id,x.2.1=some id→id<m)∧x.2.2=(w.map ltr).take x.1) (fun x=>w.length-x.1) ((0,none,[])) ?_ ?_ (by exact Le.refl _) ?_
  ·exact⟨⟨by omega,fun _=>rfl⟩,fun id hid=>(by cases hid),by simp⟩
  ·simp[wks,wkA,sl,ints,oA]
  ·skip
   rintro⟨k,(_|id),K⟩ m ⟨⟨hk,ho⟩,hid,hK⟩
   ·skip
    dsimp only[oA,oH]at hk hid hK ho ⊢
    have hnil:=ho rfl
    subst hnil
    refine AW.sr envOk (fun N hN=> ?_)
    simp-dsimp-implicitDefEqProofs (disch:=omega) only[go_sem,undef,ints,gd_i,w64]
    refine hN _ ?_
    try clear hN N
    refine AW.seq (fun N3 hN3=> ?_)
    refine AW.cond rfl (fun h2=> ?_) (fun h2=> ?_)
    ·try simp only[cn]at h2
     refine AW.skip ?_
     simp only[thn,blk]
     refine hN3 _ ?_
     try clear hN3 N3
     refine AW.seq (fun N4 hN4=> ?_)
     refine AW.block ?_
     refine AW.sr envOk (fun N hN=> ?_)
     simp-dsimp-implicitDefEqProofs (disch:=omega) only[go_sem,undef,ints,gd_i,w64]
     refine hN _ ?_
     try clear hN N
     refine AW.sr envOk (fun N hN=> ?_)
     simp-dsimp-implicitDefEqProofs (disch:=omega) only[go_sem,undef,ints,gd_i,w64]
     refine hN _ ?_
     try clear hN N
     refine AW.cond rfl (fun h3=> ?_) (fun h3=> ?_)
     ·try simp only[cn]at h3
      have h3':w.getD k 0>0:=by omega
      refine AW.regionL envOk ?_
      simp-dsimp-implicitDefEqProofs (disch:=omega) only[go_sem,undef,ints,gd_i,w64]
      refine hN4 _ ?_
      try clear hN4 N4
      refine AW.regionL envOk ?_
      simp-dsimp-implicitDefEqProofs (disch:=omega) only[go_sem,undef,ints,gd_i,w64]
      refine⟨(k+1,some (m+1+3+2+6),[ltr (w.getD k 0)]),?_,(by intro d cs hd;simp only[oH,upd,noH,List.map_cons,List.map_nil,ltr,if_pos h3']at hd ⊢;grind),?_,?_⟩
      ·simp(disch:=omega) [wks,wkA,sl,w64,ints,oA]
      ·exact⟨⟨by omega,fun h=>by cases h⟩,fun id h=>(by cases h;first|omega|(simp only;omega)|(dsimp only;omega)),by (try simp only[]);rw[ltr_take (by omega),←hK];rfl⟩
      ·first|omega|(simp only;omega)
     ·try simp only[cn]at h3
      have h3':¬w.getD k 0>0:=by omega
      refine AW.regionL envOk ?_
      simp-dsimp-implicitDefEqProofs (disch:=omega) only[go_sem,undef,ints,gd_i,w64]
      refine hN4 _ ?_
      try clear hN4 N4
      refine AW.regionL envOk ?_
      simp-dsimp-implicitDefEqProofs (disch:=omega) only[go_sem,undef,ints,gd_i,w64]
      refine⟨(k+1,some (m+1+3+2+6),[ltr (w.getD k 0)]),?_,(by intro d cs hd;simp only[oH,upd,noH,List.map_cons,List.map_nil,ltr,if_neg h3']at hd ⊢;grind),?_,?_⟩
      ·simp(disch:=omega) [wks,wkA,sl,w64,ints,oA]
      ·exact⟨⟨by omega,fun h=>by cases h⟩,fun id h=>(by cases h;first|omega|(simp only;omega)|(dsimp only;omega)),by (try simp only[]);rw[ltr_take (by omega),←hK];rfl⟩
      ·first|omega|(simp only;omega)
    ·try simp only[cn]at h2
     refine AW.exit ?_
     simp only[thn,blk,if_true]
     refine hN2 _ ?_
     try clear hN2 N2
     refine AW.sr envOk (fun N hN=> ?_)
     simp-dsimp-implicitDefEqProofs (disch:=omega) only[go_sem,undef,ints,gd_i,w64,tk_ml,byN_map,byN_nil]
     refine hN _ ?_
     try clear hN N
     refine AW.ret ?_
     simp-dsimp-implicitDefEqProofs (disch:=omega) only[go_sem,undef]
     exfalso;have:=congrArg List.length hK;simp only[List.length_nil,List.length_take,List.length_map]at this;omega
   ·skip
    dsimp only[oA,oH]at hk hid hK ho ⊢
    have hid':=hid id rfl
    have hKl:K.length=k:=by rw[hK,List.length_take,List.length_map];omega
    refine AW.sr envOk (fun N hN=> ?_)
    simp-dsimp-implicitDefEqProofs (disch:=omega) only[go_sem,undef,ints,gd_i,w64]
    refine hN _ ?_
    try clear hN N
    refine AW.seq (fun N5 hN5=> ?_)
    refine AW.cond rfl (fun h4=> ?_) (fun h4=> ?_)
    ·try simp only[cn]at h4
     refine AW.skip ?_
     simp only[thn,blk]
     refine hN5 _ ?_
     try clear hN5 N5
     refine AW.seq (fun N6 hN6=> ?_)
     refine AW.block ?_
     refine AW.sr envOk (fun N hN=> ?_)
     simp-dsimp-implicitDefEqProofs (disch:=omega) only[go_sem,undef,ints,gd_i,w64]
     refine hN _ ?_
     try clear hN N
     refine AW.sr envOk (fun N hN=> ?_)
     simp-dsimp-implicitDefEqProofs (disch:=omega) only[go_sem,undef,ints,gd_i,w64]
     refine hN _ ?_
     try clear hN N
     refine AW.cond rfl (fun h5=> ?_) (fun h5=> ?_)
     ·try simp only[cn]at h5
      have h3':w.getD k 0>0:=by omega
      refine AW.regionL envOk ?_
      simp-dsimp-implicitDefEqProofs (disch:=omega) only[go_sem,undef,ints,gd_i,w64]
      refine hN6 _ ?_
      try clear hN6 N6
      refine AW.regionL envOk ?_
      simp-dsimp-implicitDefEqProofs (disch:=omega) only[go_sem,undef,ints,gd_i,w64]
      refine⟨(k+1,some (m+1+3+2+6),K++[ltr (w.getD k 0)]),?_,(by intro d cs hd;simp only[oH,upd,noH,tk_map,List.map_append,List.map_cons,List.map_nil,ltr,if_pos h3']at hd ⊢;grind),?_,?_⟩
      ·simp(disch:=omega) [wks,wkA,sl,w64,ints,oA]
      ·exact⟨⟨by omega,fun h=>by cases h⟩,fun id h=>(by cases h;first|omega|(simp only;omega)|(dsimp only;omega)),by (try simp only[]);rw[ltr_take (by omega),←hK]⟩
      ·first|omega|(simp only;omega)
     ·try simp only[cn]at h5
      have h3':¬w.getD k 0>0:=by omega
      refine AW.regionL envOk ?_
      simp-dsimp-implicitDefEqProofs (disch:=omega) only[go_sem,undef,ints,gd_i,w64]
      refine hN6 _ ?_
      try clear hN6 N6
      refine AW.regionL envOk ?_
      simp-dsimp-implicitDefEqProofs (disch:=omega) only[go_sem,undef,ints,gd_i,w64]
      refine⟨(k+1,some (m+1+3+2+6),K++[ltr (w.getD k 0)]),?_,(by intro d cs hd;simp only[oH,upd,noH,tk_map,List.map_append,List.map_cons,List.map_nil,ltr,if_neg h3']at hd ⊢;grind),?_,?_⟩
      ·simp(disch:=omega) [wks,wkA,sl,w64,ints,oA]
      ·exact⟨⟨by omega,fun h=>by cases h⟩,fun id h=>(by cases h;first|omega|(simp only;omega)|(dsimp only;omega)),by (try simp only[]);rw[ltr_take (by omega),←hK]⟩
      ·first|omega|(simp only;omega)
    ·try simp only[cn]at h4
     refine AW.exit ?_
     simp only[thn,blk,if_true]
     refine hN2 _ ?_
     try clear hN2 N2
     refine AW.sr envOk (fun N hN=> ?_)
     simp-dsimp-implicitDefEqProofs (disch:=omega) only[go_sem,undef,ints,gd_i,w64,tk_ml,byN_map,byN_nil]
     refine hN _ ?_
     try clear hN N
     refine AW.ret ?_
     simp-dsimp-implicitDefEqProofs (disch:=omega) only[go_sem,undef]
     have hw0:w≠ []:=by rintro rfl;simp at h1
     have hfin:K=w.map ltr:=by rw[hK,show k=(w.map ltr).length by rw[List.length_map];omega,List.take_length]
     rw[wtx,if_neg hw0,hfin]
def dg (n:Int):ByteArray:=⟨(Lib.decDigits n.toNat).toArray⟩
theorem dg_s {n:Int} (h0:0≤n) (h1:n<10):strOfNums [IntKind.u8.wrap (48+n)]=dg n:=by
  have h:n=0∨n=1∨n=2∨n=3∨n=4∨n=5∨n=6∨n=7∨n=8∨n=9:=by omega
  rcases h with rfl|rfl|rfl|rfl|rfl|rfl|rfl|rfl|rfl|rfl<;>(unfold dg Lib.decDigits;rfl)
theorem dg_size {n:Int} (h0:0≤n) (h1:n<10):(dg n).size=1:=by rw[←dg_s h0 h1,strOfNums_size];rfl
theorem strconv_FormatInt_i (n:Int) (h0:0≤n) (h1:n<100):ACp Tryz.prog 25 [.i .i64 n,.i .i64 10] (.s (dg n)):=by
  have:=strconv_FormatInt_s n.toNat (by omega)
  rwa [Int.toNat_of_nonneg h0]at this
theorem spec_l01Dec_ok (n:Int) (h0:0≤n) (hn:n<10):ACp Tryz.prog 30 [.i .i64 n] (.s (dg n)):=by
 refine ACp.intro' envOk Tryz.func30 rfl (by kernel_rfl) Tryz.ntmps30 Tryz.results30 (.s _) (fun nx cX=> ?_)
 refine AW.sr envOk (fun N hN=> ?_)
 simp-dsimp-implicitDefEqProofs (disch:=omega) only[go_sem,undef,w64]
 refine hN _ ?_
 try clear hN N
 refine AW.seq (fun N1 hN1=> ?_)
 refine AW.sr envOk (fun N hN=> ?_)
 simp-dsimp-implicitDefEqProofs (disch:=omega) only[go_sem,undef,w64]
 refine hN _ ?_
 try clear hN N
 refine AW.cond rfl (fun h1=> ?_) (fun h1=> ?_)
 ·try simp only[cn]at h1
  refine AW.sr envOk (fun N hN=> ?_)
  simp-dsimp-implicitDefEqProofs (disch:=omega) only[go_sem,undef,w64,byN,List.map_cons,List.map_nil]
  refine hN _ ?_
  try clear hN N
  refine AW.ret ?_
  simp-dsimp-implicitDefEqProofs (disch:=omega) only[go_sem,undef]
  rw[←dg_s h0 hn]
 ·try simp only[cn]at h1
  exfalso;omega
def jn (d:ByteArray) (rs:List (List Int)):ByteArray:=rs.foldl (fun o w=>(o++⟨#[32]⟩)++wtx w) d
theorem jn_take {d:ByteArray} {rs:List (List Int)} {k:Nat} (h:k<rs.length):jn d (rs.take (k+1))=(jn d (rs.take k)++⟨#[32]⟩)++wtx (rs.getD k []):=by
  rw[List.take_succ_eq_append_getElem h,jn,List.foldl_append]
  simp[h,jn]
theorem jn_size {d:ByteArray} {rs:List (List Int)} (hw:∀k,k<rs.length→(rs.getD k []).length≤64):∀k,k≤rs.length→(jn d (rs.take k)).size≤d.size+66*k:=by
  intro k
  induction k with
  |zero=>intro _;simp[jn]
  | succ k ih=>
    intro hk
    have h1:=ih (by omega)
    have h2:=hw k (by omega)
    have h3:=wtx_size (rs.getD k [])
    rw[jn_take (by omega),ByteArray.size_append,ByteArray.size_append]
    have:(⟨#[32]⟩:ByteArray).size=1:=rfl
    omega
theorem jn_join (d:ByteArray):∀(rs:List (List Int)),(jn d rs).data.toList=d.data.toList++Lib.joinTail [32] (rs.map fun w=>(wtx w).data.toList):=by
  intro rs
  induction rs generalizing d with
  |nil=>simp[jn,Lib.joinTail]
  | cons w rs ih=>
    have:=ih ((d++⟨#[32]⟩)++wtx w)
    rw[show jn d (w::rs)=jn ((d++⟨#[32]⟩)++wtx w) rs from rfl,this]
    simp[Lib.joinTail,ByteArray.append,ByteArray.data_append]
theorem spec_l27Text_ok (g:Int) (rs:List (List Int)) (hg:0≤g∧g≤4) (hn:rs.length≤12) (hw:∀k,k<rs.length→(rs.getD k []).length≤64):ACp Tryz.prog 15 [fp g rs] (.s (jn (dg g) rs)):=by
 refine ACp.intro' envOk Tryz.func15 rfl (by kernel_rfl) Tryz.ntmps15 Tryz.results15 (.s _) (fun nx cX=> ?_)
 refine AW.sr envOk (fun N hN=> ?_)
 simp-dsimp-implicitDefEqProofs (disch:=omega) only[go_sem,undef,fp,rows,gd_r,w64]
 refine hN _ ?_
 try clear hN N
 refine AW.sr envOk (fun N hN=> ?_)
 simp-dsimp-implicitDefEqProofs (disch:=omega) only[go_sem,undef,fp,rows,gd_r,w64]
 refine AC.pure (.of (spec_l01Dec_ok g (by omega) (by omega))) ?_
 try simp-dsimp-implicitDefEqProofs (disch:=omega) only[go_sem,undef,fp,rows,gd_r,w64]
 refine hN _ ?_
 try clear hN N
 refine AW.seq (fun N1 hN1=> ?_)
 refine AW.sr envOk (fun N hN=> ?_)
 simp-dsimp-implicitDefEqProofs (disch:=omega) only[go_sem,undef,fp,rows,gd_r,w64]
 refine hN _ ?_
 try clear hN N
 refine AW.block ?_
 refine AW.loopN (α:=Nat) (fun x=>sl 25 [(1,.q nx 0),(3,.s (jn (dg g) (rs.take x))),(4,.i .i64 x)]) (fun _=>upd noH nx (some [.i .i64 g,rows rs])) (fun x m=>x≤rs.length) (fun x=>rs.length-x) (0) ?_ ?_ (fun _ _ h=>h) ?_
 ·exact(by omega)
 ·simp(disch:=omega) [wks,wkA,sl,fp,rows,jn]
 ·skip
  rintro k m hk
  simp-dsimp-implicitDefEqProofs (disch:=omega) only[go_sem,undef]
  have hs:=jn_size (d:=dg g) hw k hk
  rw[dg_size hg.1 (by omega)]at hs
  refine AW.seq (fun N2 hN2=> ?_)
  refine AW.sr envOk (fun N hN=> ?_)
  simp-dsimp-implicitDefEqProofs (disch:=omega) only[go_sem,undef,fp,rows,gd_r,w64]
  refine hN _ ?_
  try clear hN N
  refine AW.cond rfl (fun h1=> ?_) (fun h1=> ?_)
  ·try simp only[cn]at h1
   have hs1:((jn (dg g) (rs.take k)).size:Int)+((#[(32:UInt8)].size:Nat):Int)≤9223372036854775807:=by
    have:#[(32:UInt8)].size=1:=rfl
    omega
   have hs2:(((jn (dg g) (rs.take k)).size+#[(32:UInt8)].size:Nat):Int)+((wtx (rs.getD k [])).size:Int)≤9223372036854775807:=by
    have h1:=wtx_size (rs.getD k [])
    have h2:=hw k (by omega)
    have:#[(32:UInt8)].size=1:=rfl
    omega
   have he:=jn_take (d:=dg g) (rs:=rs) (k:=k) (by omega)
   refine AW.skip ?_
   simp only[thn,blk]
   refine hN2 _ ?_
   try clear hN2 N2
   refine AW.seq (fun N3 hN3=> ?_)
   refine AW.block ?_
   refine AW.regionL envOk ?_
   simp-dsimp-implicitDefEqProofs (disch:=omega) only[go_sem,undef,fp,rows,gd_r,w64,hs1,hs2]
   refine AC.pure (.of (spec_l06Text_ok (rs.getD k []) (by have:=hw k (by omega);omega))) ?_
   try simp-dsimp-implicitDefEqProofs (disch:=omega) only[go_sem,undef,fp,rows,gd_r,w64]
   refine hN3 _ ?_
   try clear hN3 N3
   refine AW.regionL envOk ?_
   simp-dsimp-implicitDefEqProofs (disch:=omega) only[go_sem,undef,fp,rows,gd_r,w64]
   refine⟨k+1,?_,fun _ _ h=>h,?_,?_⟩
   ·simp(disch:=omega) [wks,wkA,sl,fp,rows,he]
   ·exact(by omega)
   ·first|omega|(simp only;omega)
  ·try simp only[cn]at h1
   refine AW.exit ?_
   simp only[thn,blk,if_true]
   refine hN1 _ ?_
   try clear hN1 N1
   refine AW.sr envOk (fun N hN=> ?_)
   simp-dsimp-implicitDefEqProofs (disch:=omega) only[go_sem,undef,fp,rows,gd_r,w64]
   refine hN _ ?_
   try clear hN N
   refine AW.ret ?_
   simp-dsimp-implicitDefEqProofs (disch:=omega) only[go_sem,undef]
   rw[show k=rs.length by omega,List.take_length]
theorem wtx_take {rs:List (List Int)} {k:Nat} (h:k<rs.length):(rs.take (k+1)).map wtx=(rs.take k).map wtx++[wtx (rs.getD k [])]:=by
  rw[List.take_succ_eq_append_getElem h,List.map_append]
  simp[h]
noncomputable def fpT (g:Int) (rs:List (List Int)):AV:=if tf (fpP g rs)=true then .t [.s (jn (dg g) rs),.i .i64 0]else .t [.s ⟨#[]⟩,.i .i64 1]
theorem fpT_nr (g:Int) (rs:List (List Int)):NR (fpT g rs):=by
  have:∀(x:ByteArray) (k:Int),NR (.t [.s x,.i .i64 k]):=fun x k=> .t _ fun j y hj=>by
    match j,hj with
    |0,hj=>cases hj;exact .s _
    |1,hj=>cases hj;exact .i _ _
  unfold fpT
  split<;>exact this _ _
theorem impl_fpText_ok (g:Int) (rs:List (List Int)) (hg:0≤g∧g≤4) (hn:rs.length≤12) (hw:∀k,k<rs.length→(rs.getD k []).length≤64):ACp Tryz.prog 13 [.p 0 [.i .i64 g,rows rs]] (.s (jn (dg g) rs)):=by
 refine ACp.intro' envOk Tryz.func13 rfl (by kernel_rfl) Tryz.ntmps13 Tryz.results13 (.s _) (fun nx cX=> ?_)
 refine AW.sr envOk (fun N hN=> ?_)
 simp-dsimp-implicitDefEqProofs (disch:=omega) only[go_sem,undef,rows,gd_r,w64]
 refine hN _ ?_
 try clear hN N
 refine AW.sr envOk (fun N hN=> ?_)
 simp-dsimp-implicitDefEqProofs (disch:=omega) only[go_sem,undef,rows,gd_r,w64]
 refine AC.pure (.of (strconv_FormatInt_i g hg.1 (by omega))) ?_
 try simp-dsimp-implicitDefEqProofs (disch:=omega) only[go_sem,undef,rows,gd_r,w64]
 refine hN _ ?_
 try clear hN N
 refine AW.seq (fun N1 hN1=> ?_)
 refine AW.sr envOk (fun N hN=> ?_)
 simp-dsimp-implicitDefEqProofs (disch:=omega) only[go_sem,undef,rows,gd_r,w64]
 refine hN _ ?_
 try clear hN N
 refine AW.block ?_
 refine AW.loopN (α:=Nat×Nat×List ByteArray) (fun x=>sl 29 [(3,.h x.2.1 0 x.2.2.length),(15,rows rs),(16,.i .i64 rs.length),(17,.i .i64 x.1)]) (fun x=>upd noH x.2.1 (some (x.2.2.map .s))) (fun x m=>(x.1≤rs.length∧x.2.1<m)∧x.2.2=dg g::(rs.take x.1).map wtx) (fun x=>rs.length-x.1) ((0,nx+1+5,[dg g])) ?_ ?_ (by exact Le.refl _) ?_
 ·exact⟨⟨by omega,by first|omega|(simp only;omega)|(dsimp only;omega)⟩,by simp⟩
 ·simp(disch:=omega) [wks,wkA,sl,w64,ints,rows,cubes,rows,gd_r,w64]<;>omega
 ·skip
  rintro⟨k,id,K⟩ m ⟨⟨hk,hid⟩,hK⟩
  dsimp only at hk hid hK ⊢
  have hKl:K.length=k+1:=by rw[hK,List.length_cons,List.length_map,List.length_take];omega
  refine AW.sr envOk (fun N hN=> ?_)
  simp-dsimp-implicitDefEqProofs (disch:=omega) only[go_sem,undef,rows,gd_r,w64]
  refine hN _ ?_
  try clear hN N
  refine AW.seq (fun N2 hN2=> ?_)
  refine AW.cond rfl (fun h1=> ?_) (fun h1=> ?_)
  ·try simp only[cn]at h1
   refine AW.skip ?_
   simp only[thn,blk]
   refine hN2 _ ?_
   try clear hN2 N2
   refine AW.seq (fun N3 hN3=> ?_)
   refine AW.block ?_
   refine AW.sr envOk (fun N hN=> ?_)
   simp-dsimp-implicitDefEqProofs (disch:=omega) only[go_sem,undef,rows,gd_r,w64]
   refine hN _ ?_
   try clear hN N
   refine AW.regionL envOk ?_
   simp-dsimp-implicitDefEqProofs (disch:=omega) only[go_sem,undef,rows,gd_r,w64]
   refine AC.pure (.of (impl_wordText_ok (rs.getD k []) (by have:=hw k (by omega);omega))) ?_
   try simp-dsimp-implicitDefEqProofs (disch:=omega) only[go_sem,undef,rows,gd_r,w64]
   refine hN3 _ ?_
   try clear hN3 N3
   refine AW.regionL envOk ?_
   simp-dsimp-implicitDefEqProofs (disch:=omega) only[go_sem,undef,rows,gd_r,w64]
   refine⟨(k+1,m+1+3+4,K++[wtx (rs.getD k [])]),?_,by intro d cs hd;simp only[upd,noH,tk_ml,List.map_append,List.map_cons,List.map_nil]at hd ⊢;grind,?_,?_⟩
   ·simp(disch:=omega) [wks,wkA,sl,w64,ints,rows,cubes,rows,gd_r,w64]<;>omega
   ·exact⟨⟨by omega,by first|omega|(simp only;omega)|(dsimp only;omega)⟩,by simp only[];rw[hK,wtx_take (by omega)];rfl⟩
   ·first|omega|(simp only;omega)
  ·try simp only[cn]at h1
   have hjj:Lib.join (K.map fun x=>x.data.toList) [32]=(jn (dg g) rs).data.toList:=by
    rw[hK,show k=rs.length by omega,List.take_length,List.map_cons,Lib.join_cons,jn_join,List.map_map]
    rfl
   have hjl:(Lib.join (K.map fun x=>x.data.toList) (⟨#[32]⟩:ByteArray).data.toList).length≤140737488355328:=by
    have h1:=jn_size (d:=dg g) hw rs.length (Nat.le_refl _)
    rw[List.take_length,dg_size hg.1 (by omega)]at h1
    have h2:(jn (dg g) rs).data.toList.length=(jn (dg g) rs).size:=by rw[Array.length_toList];rfl
    show(Lib.join (K.map fun x=>x.data.toList) [32]).length≤_
    rw[hjj,h2]
    omega
   refine AW.exit ?_
   simp only[thn,blk,if_true]
   refine hN1 _ ?_
   try clear hN1 N1
   refine AW.sr envOk (fun N hN=> ?_)
   simp-dsimp-implicitDefEqProofs (disch:=omega) only[go_sem,undef,rows,gd_r,w64]
   refine AC.pure (.lent (strings_Join_s K ⟨#[32]⟩ (by omega) hjl) (.cons (Vw.fr (upd_same _ _ _) (by simp)) (.cons (.refl _) .nil)) (.s _)) ?_
   try simp-dsimp-implicitDefEqProofs (disch:=omega) only[go_sem,undef,rows,gd_r,w64]
   refine hN _ ?_
   try clear hN N
   refine AW.ret ?_
   simp-dsimp-implicitDefEqProofs (disch:=omega) only[go_sem,undef]
   rw[hjj]
theorem spec_FpText_ok (g:Int) (rs:List (List Int)) (hr:rowslen rs):ACp Tryz.prog 7 [fp g rs] (fpT g rs):=by
 refine ACp.intro' envOk Tryz.func7 rfl (by kernel_rfl) Tryz.ntmps7 Tryz.results7 (fpT_nr _ _) (fun nx cX=> ?_)
 refine AW.sr envOk (fun N hN=> ?_)
 simp-dsimp-implicitDefEqProofs (disch:=omega) only[go_sem,undef,fp,rows,w64]
 refine hN _ ?_
 try clear hN N
 refine AW.seq (fun N1 hN1=> ?_)
 refine AW.sr envOk (fun N hN=> ?_)
 simp-dsimp-implicitDefEqProofs (disch:=omega) only[go_sem,undef,fp,rows,w64]
 refine AC.pure (.of (spec_IsFpGroup_ok g rs hr)) ?_
 try simp-dsimp-implicitDefEqProofs (disch:=omega) only[go_sem,undef,fp,rows,w64]
 refine hN _ ?_
 try clear hN N
 refine AW.cond rfl (fun h1=> ?_) (fun h1=> ?_)
 ·try simp only[cn]at h1
  have hf:tf (fpP g rs)=false:=tf_f (by simpa using h1)
  refine AW.sr envOk (fun N hN=> ?_)
  simp-dsimp-implicitDefEqProofs (disch:=omega) only[go_sem,undef,fp,rows,w64]
  refine hN _ ?_
  try clear hN N
  refine AW.ret ?_
  simp-dsimp-implicitDefEqProofs (disch:=omega) only[go_sem,undef]
  rw[fpT,if_neg (by rw[hf];simp)]
 ·try simp only[cn]at h1
  have hf:tf (fpP g rs)=true:=tf_t (by simpa using h1)
  have hg:fpP g rs:=tf_iff.1 hf
  refine AW.skip ?_
  simp only[thn,blk]
  refine hN1 _ ?_
  try clear hN1 N1
  refine AW.sr envOk (fun N hN=> ?_)
  simp-dsimp-implicitDefEqProofs (disch:=omega) only[go_sem,undef,fp,rows,w64]
  refine AC.pure (.of (spec_l27Text_ok g rs hg.1 hg.2.1 (fun k hk=>(hg.2.2 k hk).1))) ?_
  try simp-dsimp-implicitDefEqProofs (disch:=omega) only[go_sem,undef,fp,rows,w64]
  refine hN _ ?_
  try clear hN N
  refine AW.ret ?_
  simp-dsimp-implicitDefEqProofs (disch:=omega) only[go_sem,undef]
  rw[fpT,if_pos hf]
theorem impl_FpText_ok (g:Int) (rs:List (List Int)) (hr:rowslen rs):ACp Tryz.prog 6 [fp g rs] (fpT g rs):=by
 refine ACp.intro' envOk Tryz.func6 rfl (by kernel_rfl) Tryz.ntmps6 Tryz.results6 (fpT_nr _ _) (fun nx cX=> ?_)
 refine AW.sr envOk (fun N hN=> ?_)
 simp-dsimp-implicitDefEqProofs (disch:=omega) only[go_sem,undef,fp,rows,w64]
 refine hN _ ?_
 try clear hN N
 refine AW.freezeQ 1 nx _ rfl (upd_same _ _ _) ?_
 simp-dsimp-implicitDefEqProofs (disch:=omega) only[go_sem,undef]
 refine AW.seq (fun N1 hN1=> ?_)
 refine AW.sr envOk (fun N hN=> ?_)
 simp-dsimp-implicitDefEqProofs (disch:=omega) only[go_sem,undef,fp,rows,w64]
 refine AC.pure (.of (impl_IsFpGroup_ok g rs hr)) ?_
 try simp-dsimp-implicitDefEqProofs (disch:=omega) only[go_sem,undef,fp,rows,w64]
 refine hN _ ?_
 try clear hN N
 refine AW.cond rfl (fun h1=> ?_) (fun h1=> ?_)
 ·try simp only[cn]at h1
  have hf:tf (fpP g rs)=false:=tf_f (by simpa using h1)
  refine AW.sr envOk (fun N hN=> ?_)
  simp-dsimp-implicitDefEqProofs (disch:=omega) only[go_sem,undef,fp,rows,w64]
  refine hN _ ?_
  try clear hN N
  refine AW.ret ?_
  simp-dsimp-implicitDefEqProofs (disch:=omega) only[go_sem,undef]
  rw[fpT,if_neg (by rw[hf];simp)]
 ·try simp only[cn]at h1
  have hf:tf (fpP g rs)=true:=tf_t (by simpa using h1)
  have hg:fpP g rs:=tf_iff.1 hf
  refine AW.skip ?_
  simp only[thn,blk]
  refine hN1 _ ?_
  try clear hN1 N1
  refine AW.sr envOk (fun N hN=> ?_)
  simp-dsimp-implicitDefEqProofs (disch:=omega) only[go_sem,undef,fp,rows,w64]
  refine AC.pure (.of (impl_fpText_ok g rs hg.1 hg.2.1 (fun k hk=>(hg.2.2 k hk).1))) ?_
  try simp-dsimp-implicitDefEqProofs (disch:=omega) only[go_sem,undef,fp,rows,w64]
  refine hN _ ?_
  try clear hN N
  refine AW.ret ?_
  simp-dsimp-implicitDefEqProofs (disch:=omega) only[go_sem,undef]
  rw[fpT,if_pos hf]
end Go.Proofs.YtlcddiojeghfgaaGreatDoor
