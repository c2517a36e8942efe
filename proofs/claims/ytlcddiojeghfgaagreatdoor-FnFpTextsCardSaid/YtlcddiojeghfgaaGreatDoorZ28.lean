import Derived.Test.YtlcddiojeghfgaaGreatDoorZ10
import Derived.Test.YtlcddiojeghfgaaGreatDoorZ13
import Derived.Test.YtlcddiojeghfgaaGreatDoorZ14
import Derived.Test.YtlcddiojeghfgaaGreatDoorZ20
import Derived.Test.YtlcddiojeghfgaaGreatDoorZ26
import Derived.Test.YtlcddiojeghfgaaGreatDoorZ27
set_option linter.unusedVariables false
set_option linter.unusedSimpArgs false
namespace Go.Proofs.YtlcddiojeghfgaaGreatDoor
open Nat (reduceAdd reduceSub reduceGT reduceEqDiff reduceMul)
def lab (l:Int):Int:=if 0<l then l else-l
def lid (l:Int):Nat:=(lab l-1).toNat
theorem wordP.get {n:Nat} {w:List Int} (h:wordP n w) {k:Nat} (hk:k<w.length):lid (w.getD k 0)<n∧lab (w.getD k 0)-1=lid (w.getD k 0)∧1≤lab (w.getD k 0)∧lab (w.getD k 0)≤n:=by
  have:=h.2 k hk
  unfold lid lab
  split<;>omega
open Nat (reduceAdd reduceSub reduceGT reduceEqDiff reduceMul)
def resF (m:(Int×List (List Int))×Int):AV:= .t [fp m.1.1 m.1.2,.i .i64 m.2]
theorem Vw.fp {H:HP} {a:AV} {g:Int} {rs:List (List Int)} (h:Vw H a (rows rs)):Vw H (.g [.i .i64 g,a]) (Go.Proofs.YtlcddiojeghfgaaGreatDoor.fp g rs):=by
  refine .g _ _ rfl (fun k x y hx hy=> ?_)
  match k,hx,hy with
  |0,hx,hy=>cases hx;cases hy;exact .refl _
  |1,hx,hy=>cases hx;cases hy;exact h
theorem Own.fp {a b:Nat} {H:HP} {r:AV} {ids:List Nat} {g:Int} {rs:List (List Int)} (h:Own a b H r (rows rs) ids):∃ids,Own a b H (.g [.i .i64 g,r]) (Go.Proofs.YtlcddiojeghfgaaGreatDoor.fp g rs) ids:=by
  obtain⟨h1,h2,h3⟩:=h
  exact⟨[]++(ids++[]),.g _ _ _ (.cons _ _ _ _ [] _ (.leaf _ (.i _ _) (.i _ _)) (.cons _ _ _ _ _ _ h1 .nil)),by simpa using h2,fun i hi=>h3 i (by simpa using hi)⟩
theorem OutB.keep {a m:Nat} {o:Option Nat} {rs:List AV} {H H':HP} {W:List (List Int)} (h:OutB a m o rs H W) (hk:∀i,a≤i→i<m→H' i=H i) (hd:∀i,m≤i→H' i=none):OutB a m o rs H' W:=by
  obtain⟨⟨ids,h1,h2,h3,h4⟩,h5,_⟩:=h
  exact⟨⟨ids,h1.keep fun i hi=>hk i (h3 i hi).1 (h3 i hi).2,h2,h3,h4⟩,h5,hd⟩
theorem Own.nilF {a b:Nat} {H:HP} {e:Int}:∃ids,Own a b H (.t [.g [.i .i64 0,.nl],.i .i64 e]) (resF ((0,[]),e)) ids:=by
  obtain⟨ids,h⟩:=Own.fp (a:=a) (b:=b) (H:=H) (g:=0) (rs:=[]) (ids:=[]) (r:= .nl) ⟨.nl,by simp,by simp⟩
  exact h.pair
open Nat (reduceAdd reduceSub reduceGT reduceEqDiff reduceMul)
noncomputable def wdsP (n:Int) (ps:List (List UInt8)):List (List Int):=ps.map fun p=>parW n (ofL p)
def fgQ (n:Int) (ps:List (List UInt8)):Prop:=(∀k,k<ps.length→parB n (ofL (ps.getD k []))=true)∧fpP n (wdsP n ps)
def fgV (b:Bool) (n:Int) (ws:List (List Int)):(Int×List (List Int))×Int:=match b with
  |true=>((n,ws),0)
  |false=>((0,[]),6)
noncomputable def fgH (h:List UInt8) (ps:List (List UInt8)):(Int×List (List Int))×Int:=fgV (tf (fgQ (valS (ofL h)) ps)) (valS (ofL h)) (wdsP (valS (ofL h)) ps)
noncomputable def fgM (l:List UInt8):(Int×List (List Int))×Int:=match spL 32 l with
  |[]=>((0,[]),6)
  |h::ps=>fgH h ps
theorem fgV_no {b:Bool} {n:Int} {ws:List (List Int)} (h:b=false):fgV b n ws=((0,[]),6):=by subst h;rfl
theorem fgH_no {h:List UInt8} {ps:List (List UInt8)} (hn:¬fgQ (valS (ofL h)) ps):fgH h ps=((0,[]),6):=fgV_no (tf_f hn)
theorem fgH_yes {h:List UInt8} {ps:List (List UInt8)} (hn:fgQ (valS (ofL h)) ps):fgH h ps=((valS (ofL h),wdsP (valS (ofL h)) ps),0):=by
  unfold fgH;rw[tf_t hn];rfl
def wdsI (n:Nat) (ps:List (List UInt8)):List (List Int):=ps.map (rdL n)
def fgI (n:Nat) (ps:List (List UInt8)) (l:List UInt8):Prop:=((n≤4∧∀k,k<ps.length→rdB n (ps.getD k [])=true)∧fpP n (wdsI n ps))∧(jn (dg n) (wdsI n ps)).toList=(ofL l).toList
noncomputable def irV (v:Int) (ps:List (List UInt8)) (l:List UInt8):(Int×List (List Int))×Int:=fgV (tf (0≤v∧fgI v.toNat ps l)) v (wdsI v.toNat ps)
theorem irV_no {v:Int} {ps:List (List UInt8)} {l:List UInt8} (h:¬(0≤v∧fgI v.toNat ps l)):irV v ps l=((0,[]),6):=fgV_no (tf_f h)
theorem irV_yes {n:Nat} {ps:List (List UInt8)} {l:List UInt8} (h:fgI n ps l):irV (n:Int) ps l=(((n:Int),wdsI n ps),0):=by
  unfold irV
  rw[tf_t ⟨by omega,by simpa using h⟩,Int.toNat_natCast];rfl
theorem spL_tail (c:UInt8):∀l,∀h ps,spL c l=h::ps→l=h++Lib.joinTail [c] ps:=by
  intro l
  induction l with
  |nil=>intro h ps e;simp[spL]at e;obtain⟨rfl,rfl⟩:=e;rfl
  | cons b l ih=>
    intro h ps e
    rw[spL]at e
    cases hs:spL c l with
    |nil=>exact absurd hs (spL_ne _ _)
    | cons x xs=>
      have hl:=ih x xs hs
      rw[hs]at e
      split at e
      · rename_i hb;subst hb
        cases e
        rw[hl];simp[Lib.joinTail]
      · cases e
        rw[hl];simp[List.cons_append]
theorem spL_head {c:UInt8} {h:List UInt8} {qs:List (List UInt8)} (hc:h.count c=0):(spL c (h++Lib.joinTail [c] qs)).head? =some h:=by
  cases qs with
  |nil=>simp[Lib.joinTail,spL_zero hc]
  | cons q qs=>
    rw[show h++Lib.joinTail [c] (q::qs)=h++c::(q++Lib.joinTail [c] qs) by simp[Lib.joinTail],spL_app _ hc]
    rfl
theorem dgLk (n:Nat) (h:n≤4):(dg n).data.toList=[UInt8.ofNat (48+n)]:=by
  have e:n=0∨n=1∨n=2∨n=3∨n=4:=by omega
  rcases e with rfl|rfl|rfl|rfl|rfl<;>(unfold dg Lib.decDigits;rfl)
theorem dg_cnt (n:Nat) (h:n≤4):([UInt8.ofNat (48+n)]:List UInt8).count 32=0:=by
  have e:n=0∨n=1∨n=2∨n=3∨n=4:=by omega
  rcases e with rfl|rfl|rfl|rfl|rfl<;>rfl
theorem dg_parse (n:Nat) (h:n≤4):Lib.parseIntB 64 [UInt8.ofNat (48+n)]= .ok (n:Int):=by
  have e:n=0∨n=1∨n=2∨n=3∨n=4:=by omega
  rcases e with rfl|rfl|rfl|rfl|rfl<;>rfl
theorem dg_val (n:Nat) (h:n≤4):valS (ofL [UInt8.ofNat (48+n)])=n:=by
  have hs:(ofL [UInt8.ofNat (48+n)]).size=1:=by rw[ofL_sz];rfl
  have hb:byt (ofL [UInt8.ofNat (48+n)]) 0=48+n:=by
    rw[byt_L]
    have e:n=0∨n=1∨n=2∨n=3∨n=4:=by omega
    rcases e with rfl|rfl|rfl|rfl|rfl<;>rfl
  rw[val_yes (by rw[hs];omega) (fun j hj=>by
    have:j=0:=by omega
    subst this;unfold isDig;omega),hs,vpre,vpre,hb]
  omega
theorem vpre_big {s:ByteArray} {m:Nat} (hd:∀j,j<m→isDig s j) (h0:byt s 0≠48):∀i,i+2≤m→10≤vpre s (i+2):=by
  intro i
  induction i with
  | zero=>
    intro h
    have h1:=hd 0 (by omega);have h2:=hd 1 (by omega)
    unfold isDig at h1 h2
    rw[vpre,vpre,vpre];omega
  | succ i ih=>
    intro h
    have h1:=ih (by omega)
    have h2:=hd (i+2) (by omega)
    unfold isDig at h2
    rw[vpre];omega
theorem val_dg {h:List UInt8} (h0:0≤valS (ofL h)) (h4:valS (ofL h)≤4):∃n:Nat,n≤4∧h=[UInt8.ofNat (48+n)]:=by
  unfold valS at h0 h4
  split at h0
  · omega
  rename_i hc
  rw[if_neg hc]at h4
  split at h0
  · rename_i hd
    rw[if_pos hd]at h4
    rw[ofL_sz]at hc h0 h4
    have hd':∀j,j<h.length→isDig (ofL h) j:=fun j hj=>hd j (by rw[ofL_sz];exact hj)
    match h,hc,h0,h4,hd' with
    |[],hc,_,_,_=>simp at hc
    | [b],_,h0,h4,hd'=>
      have h1:=hd' 0 (by simp)
      unfold isDig at h1
      have hb:byt (ofL [b]) 0=(b.toNat:Int):=by rw[byt_L];rfl
      simp only[List.length_cons,List.length_nil,vpre,Nat.zero_add]at h0 h4
      rw[hb]at h0 h4 h1
      refine⟨b.toNat-48,by omega,?_⟩
      rw[show 48+(b.toNat-48)=b.toNat by omega]
      simp
    | b::c::r,hc,h0,h4,hd'=>
      have:=vpre_big (m:=(b::c::r).length) hd' (fun e=>hc (.inr (.inr ⟨by simp,e⟩))) r.length (by simp)
      simp only[List.length_cons]at h4
      have h5:10≤vpre (ofL (b::c::r)) (r.length+1+1):=this
      omega
  · omega
theorem rd_wtx {n:Nat} (hn:n≤4) {p:List UInt8} (h:rdB n p=true):(wtx (rdL n p)).data.toList=p:=by
  by_cases e:p=[49]
  · rw[rdL,if_pos e,wtx,if_pos rfl,e]
  · rw[rdB,if_neg e,Bool.and_eq_true,decide_eq_true_eq]at h
    rw[rdL,if_neg e,if_pos h.1,wtx,if_neg (by simpa using h.2)]
    have hl:∀b∈p,ltr (lvB b)=(b.toNat:Int):=by
      intro b hb
      have h1:=List.all_eq_true.1 h.1 b hb
      unfold okB lvB at h1
      simp only[Bool.and_eq_true,decide_eq_true_eq]at h1
      have hb8:=b.toNat_lt
      unfold ltr lvB
      by_cases h2:b.toNat<97
      · rw[if_pos h2]at h1 ⊢
        rw[if_neg (by omega),w64 (n:=65-(64-(b.toNat:Int))) (by omega) (by omega),w64 (n:=65-(64-(b.toNat:Int))-1) (by omega) (by omega),w8 (by omega) (by omega)];omega
      · rw[if_neg h2]at h1 ⊢
        rw[if_pos (by omega),w64 (n:=97+((b.toNat:Int)-96)) (by omega) (by omega),w64 (n:=97+((b.toNat:Int)-96)-1) (by omega) (by omega),w8 (by omega) (by omega)];omega
    have h3:(p.map lvB).map ltr=p.map fun b=>(b.toNat:Int):=by
      rw[List.map_map];exact List.map_congr_left hl
    rw[h3]
    simp[strOfNums,Function.comp_def]
theorem fgI_text {n:Nat} (hn:n≤4) {ps:List (List UInt8)} (h:∀k,k<ps.length→rdB n (ps.getD k [])=true):(jn (dg n) (wdsI n ps)).toList=(ofL ([UInt8.ofNat (48+n)]++Lib.joinTail [32] ps)).toList:=by
  rw[ByteArray.toList_eq,ByteArray.toList_eq,jn_join,dgLk n hn]
  show _=[UInt8.ofNat (48+n)]++Lib.joinTail [32] ps
  congr 2
  unfold wdsI
  rw[List.map_map]
  refine List.ext_getElem (by simp) fun k h1 h2=> ?_
  have:=rd_wtx hn (h k h2)
  simpa[h2]using this
theorem wds_eq {n:Nat} (hn:n≤4) (ps:List (List UInt8)):wdsP n ps=wdsI n ps:=List.map_congr_left fun p _=>(par_rd hn p).1
theorem irV_eq {l:List UInt8} {h:List UInt8} {ps:List (List UInt8)} {v:Int} (hs:spL 32 l=h::ps) (hv:Lib.parseIntB 64 h= .ok v):irV v ps l=fgH h ps:=by
  have hl:=spL_tail 32 l h ps hs
  by_cases hq:fgQ (valS (ofL h)) ps
  · obtain⟨n,hn,rfl⟩:=val_dg hq.2.1.1 hq.2.1.2
    rw[dg_val n hn]at hq
    rw[dg_parse n hn]at hv
    cases hv
    have hr:∀k,k<ps.length→rdB n (ps.getD k [])=true:=fun k hk=>by rw[←(par_rd hn _).2];exact hq.1 k hk
    rw[irV_yes (n:=n) (l:=l) ⟨⟨⟨hn,hr⟩,by rw[←wds_eq hn];exact hq.2⟩,(fgI_text hn hr).trans (congrArg (fun q=>(ofL q).toList) hl.symm)⟩,fgH_yes (by rw[dg_val n hn];exact hq),dg_val n hn,wds_eq hn]
  · rw[fgH_no hq]
    refine irV_no ?_
    rintro⟨h0,⟨⟨h4,hr⟩,hf⟩,ht⟩
    obtain⟨n,rfl⟩:∃n:Nat,v=n:=⟨v.toNat,by omega⟩
    rw[Int.toNat_natCast]at h4 hr hf ht
    have ht2:=(fgI_text h4 hr).symm.trans ht
    rw[toL_eq]at ht2
    have hh:=spL_head (c:=32) (qs:=ps) (dg_cnt n h4)
    rw[ht2,hs]at hh
    cases hh
    refine hq ⟨fun k hk=> ?_,?_⟩
    · rw[dg_val n h4,(par_rd h4 _).2];exact hr k hk
    · rw[dg_val n h4,wds_eq h4];exact hf
theorem fgH_bad {h:List UInt8} {ps:List (List UInt8)} (hv:∀v,Lib.parseIntB 64 h≠ .ok v):fgH h ps=((0,[]),6):=by
  refine fgH_no fun hq=> ?_
  obtain⟨n,hn,rfl⟩:=val_dg hq.2.1.1 hq.2.1.2
  exact hv n (dg_parse n hn)
theorem tail_len (c:UInt8):∀ps:List (List UInt8),ps.length≤(Lib.joinTail [c] ps).length∧∀p∈ps,p.length≤(Lib.joinTail [c] ps).length:=by
  intro ps
  induction ps with
  |nil=>exact⟨Nat.le_refl _,by simp⟩
  | cons q ps ih=>
    have e:(Lib.joinTail [c] (q::ps)).length=q.length+1+(Lib.joinTail [c] ps).length:=by simp[Lib.joinTail];omega
    refine⟨by rw[e,List.length_cons];omega,fun p hp=> ?_⟩
    rw[e]
    rcases List.mem_cons.1 hp with rfl|hp
    · omega
    · have:=ih.2 p hp;omega
theorem spL_sml {c:UInt8} {l h:List UInt8} {ps:List (List UInt8)} {N:Nat} (hs:spL c l=h::ps) (hl:l.length≤N):h.length≤N∧ps.length≤N∧∀k,(ps.getD k []).length≤N:=by
  have:=congrArg List.length (spL_tail c l h ps hs)
  rw[List.length_append]at this
  obtain⟨h1,h2⟩:=tail_len c ps
  refine⟨by omega,by omega,fun k=> ?_⟩
  by_cases hk:k<ps.length
  · have:=h2 (ps.getD k []) (by simp[hk]);omega
  · simp[List.getD,List.getElem?_eq_none (show ps.length≤k by omega)]
theorem parW_len (n:Int) (s:ByteArray):(parW n s).length≤s.size:=by
  unfold parW
  split
  · simp
  · split
    · simp[ltrs]
    · simp
theorem wdsP_rl {n:Int} {ps:List (List UInt8)} (h1:ps.length≤1048576) (h2:∀k,(ps.getD k []).length≤1048576):rowslen (wdsP n ps):=by
  refine⟨by unfold wdsP;rw[List.length_map];exact h1,fun x hx=> ?_⟩
  unfold wdsP at hx
  obtain⟨p,hp,rfl⟩:=List.mem_map.1 hx
  obtain⟨k,hk,rfl⟩:=List.mem_iff_getElem.1 hp
  have:=parW_len n (ofL ps[k]);rw[ofL_sz]at this
  have h3:=h2 k
  simp[hk]at h3
  omega
theorem LC.vw {H:HP} {a b:Nat} {L:AV} {cs:List AV} (h:LC H a b L cs):Vw H L (.v cs.length cs):=by
  rcases h with ⟨rfl,rfl⟩|⟨id,rfl,h0,_,_⟩
  · exact .nl
  · exact Vw.fr h0 rfl
theorem ifne_yes {P:Program} {o:Oper} {ev:Operand→AV} {H:HP} {id:Nat} {ty rt te:TypeId} {pe:Value} {x:Operand} (ho:o.op= .binOp .neq ty x (.const .nilIface) rt) (hx:ev x= .c (.iface te pe)) (hxc:ev (.const .nilIface)= .c .nilIface) (hty:ifB P ty=true) {k:AV→HP→Prop} (h:k (.b true) H):OpS P o ev H id k:=by
  intro L Av w ρ hs hfn hL hi hops
  have hu:=hops x (by rw[ho];simp[Op.operands])
  rw[hx]at hu
  have hu2:=hu.c_inv
  have hv:=hops (.const .nilIface) (by rw[ho];simp[Op.operands])
  rw[hxc]at hv
  have hv2:=hv.c_inv
  obtain⟨ms,hms⟩:∃ms,P.underlying ty=some (.interface ms):=by
    unfold ifB at hty
    split at hty
    · exact⟨_,by assumption⟩
    · cases hty
  have rt:(underlying ty).run P w= .ok (.interface ms) w:=by simp[go_sem,underlying,hms]
  have hq:∀dd:Nat,(Op.equalIn (dd+1) ty (.iface te pe) .nilIface).run P w= .ok false w:=by
    intro dd
    rw[Op.equalIn.eq_2]
    simp[rt]
  have:=hq 9999
  refine .of_value (u:= .bool true) (w':=w) ?_ ⟨_,H,L,h,fun _ _=>rfl,hs,Step.refl _ _ _,.b _⟩
  simp[execOp,ho,hu2,hv2,go_sem,binOp,Op.equal,Op.maxDepth,this]
def ifP (v:Value):Prop:=v= .nilIface∨∃te pe,v= .iface te pe
def erV:VL:=[(0,ifP),(1,ifP)]
theorem step_below {L:LM} {w w':World} (h:RowKit.Below w.heap.size w w'):Step L noH w L noH w':=
  let ⟨a,b,c,d,e⟩:=h
  ⟨fun _ _ h=>h,a,b,c,d,fun i hi _=>e i hi,fun _ _ h=>h⟩
theorem parseInt_bad (s:ByteArray) (hs:s.size≤281474976710656) (h:∀v,Lib.parseIntB 64 s.data.toList≠ .ok v) (nx:Nat) (H:HP):ACv erV Tryz.prog 19 nx H [.s s,.i .i64 10,.i .i64 64] (fun nx' H' r=>(nx'=nx∧H'=H)∧∃z te pe,r= .t [.i .i64 z,.c (.iface te pe)]):=by
  refine⟨⟨_,Tryz.func19,by kernel_rfl,by kernel_rfl⟩,fun L Av w us hs' hfr ha hgl hgv=> ?_⟩
  obtain⟨u,v',t,rfl,h1,h2,h3⟩:=args3 ha
  rw[h1.s_inv,h2.i_inv,h3.i_inv]
  have fin:∀(w':World) (z:Int) (te:TypeId) (pe:Value),RowKit.Below w.heap.size w w'→∃u r L' nx' H',Ending.returned (.tuple #[.int .i64 z,.iface te pe])= .returned u∧((nx'=nx∧H'=H)∧∃z te pe,r=AV.t [.i .i64 z,.c (.iface te pe)])∧nx≤nx'∧(∀i,nx'≤i→L' i=none)∧(∀i,i<nx→L' i=L i)∧SR L' H' Av w'∧Step L H w L' H' w'∧R L' w' (MM L' H' Av) r u:=by
    intro w' z te pe bel
    obtain⟨hsr,hst⟩:=hs'.kept (step_below bel)
    refine⟨_,_,L,nx,H,rfl,⟨⟨rfl,rfl⟩,z,te,pe,rfl⟩,Nat.le_refl _,hfr,fun _ _=>rfl,hsr,hst,.t _ _ rfl fun k x hk=> ?_⟩
    match k,hk with
    |0,hk=>cases hk;exact .i _ _
    |1,hk=>cases hk;exact .c _
  rcases hp:Lib.parseIntB 64 s.data.toList with v|_|_
  · exact absurd hp (h v)
  · obtain⟨_,ev,hv,hev⟩:=hgv (0,ifP) (by simp[erV])
    refine(Any.strconv_ParseInt_10_at64_syntax Tryz.laysC174 s hs hp ev w hv hev).mono ?_
    rintro e w' ⟨N,rfl,_,_,bel⟩
    exact fin _ _ _ _ bel
  · obtain⟨_,ev,hv,hev⟩:=hgv (1,ifP) (by simp[erV])
    refine(Tryz.strconv_ParseInt_10_at64_range s hs hp ev w hv hev).mono ?_
    rintro e w' ⟨N,rfl,_,_,bel⟩
    exact fin _ _ _ _ bel
end Go.Proofs.YtlcddiojeghfgaaGreatDoor
