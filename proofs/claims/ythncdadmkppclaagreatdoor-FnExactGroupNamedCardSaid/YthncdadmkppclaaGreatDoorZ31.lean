import Derived.Test.YthncdadmkppclaaGreatDoorZ30
set_option linter.unusedVariables false
set_option linter.unusedSimpArgs false
namespace Go.Proofs.YthncdadmkppclaaGreatDoor
open Nat (reduceAdd reduceSub reduceGT reduceEqDiff reduceMul)
abbrev Row:=Int×ByteArray×ByteArray
def cellsR (r:Row):List AV:=[.i .i64 r.1,.s r.2.1,.s r.2.2]
def opsOf:Code→List Oper
  | .seq a b=>opsOf a++opsOf b
  | .region _ ops _=>ops.toList
  |_=>[]
def bldRow (ty:TypeId):Oper→Option (Nat×Row)
  | ⟨some d,.build ty' ps,_,_,_,none⟩=>match ps.toList with
    |[(0,.const (.int .i64 v)),(1,.const (.string a)),(2,.const (.string b))]=>if ty'=ty then some (d,v,a,b)else none
    |_=>none
  |_=>none
def blds (ty:TypeId):List Oper→Option (List (Nat×Row))
  |[]=>some []
  | o::os=>match bldRow ty o with
    |some r=>(blds ty os).map (r:: ·)
    |none=>none
def tyOf:List Oper→TypeId
  |[]=>0
  |⟨_,.build ty _,_,_,_,_⟩::_=>ty
  |_::os=>tyOf os
noncomputable def tblOps:List Oper:=match (Tryz.f39).body with
  |some c=>opsOf c
  |none=>[]
noncomputable def tblTy:TypeId:=tyOf tblOps
noncomputable def tbl:List Row:=tblOps.filterMap fun o=>(bldRow tblTy o).map (·.2)
noncomputable def tblD:List (Nat×Row):=tblOps.filterMap fun o=>bldRow tblTy o
noncomputable def tcells:List AV:=tbl.flatMap cellsR
noncomputable def tblV:AV:= .v 82 tcells
theorem tbl_len:tbl.length=82:=by kernel_rfl
theorem tcells_len:tcells.length=246:=by kernel_rfl
theorem tcells_get:∀(k:Nat) (x:AV),tcells[k]? =some x→NR x:=by
  intro k x h
  have:=List.mem_of_getElem? h
  unfold tcells at this
  obtain⟨r,_,h2⟩:=List.mem_flatMap.1 this
  simp only[cellsR,List.mem_cons,List.not_mem_nil,or_false]at h2
  rcases h2 with rfl|rfl|rfl
  · exact .i _ _
  · exact .s _
  · exact .s _
theorem tblV_nr:NR tblV:= .v _ _ tcells_get
section
variable {P:Program} {Γ:TEnv} {cX:Ctx}
theorem arun_blds {ty:TypeId} (hb:∀v a b (k:AV→Prop),k (.g (cellsR (v,a,b)))→buop Γ ty [(0,.i .i64 v),(1,.s a),(2,.s b)] k) {all:List Oper} {base:Nat} {rest:List Oper} {H:HP} {nx:Nat} {K:St→Prop}:∀(os:List Oper) (rows:List (Nat×Row)) (i:Nat) (t:List AV),blds ty os=some rows→
    arun Γ P all base rest (i+os.length) ⟨rows.foldl (fun t r=>t.set r.1 (.g (cellsR r.2))) t,H,nx⟩ K→arun Γ P all base (os++rest) i ⟨t,H,nx⟩ K:=by
  intro os
  induction os with
  |nil=>intro rows i t h hr;cases h;exact hr
  | cons o os ih=>
    intro rows i t h hr
    unfold blds at h
    split at h
    · rename_i r hrow
      obtain⟨rs,h2,rfl⟩:=Option.map_eq_some_iff.1 h
      have hlast:=ih rs (i+1) (t.set r.1 (.g (cellsR r.2))) h2 (by rw[show i+1+os.length=i+(o::os).length by simp;omega];exact hr)
      unfold bldRow at hrow
      split at hrow
      · rename_i d ty' ps x1 x2 x3
        split at hrow
        · rename_i v a b hps
          split at hrow
          · rename_i hty
            cases hrow
            subst hty
            rw[List.cons_append,ar_one,a_build,hps]
            exact hb _ _ _ _ hlast
          · cases hrow
        · cases hrow
      · cases hrow
    · cases h
theorem arun_split {ty:TypeId} (hb:∀v a b (k:AV→Prop),k (.g (cellsR (v,a,b)))→buop Γ ty [(0,.i .i64 v),(1,.s a),(2,.s b)] k) {ops all:List Oper} {base:Nat} {H:HP} {nx:Nat} {K:St→Prop} {t:List AV} (m:Nat) (rows:List (Nat×Row)) (h:blds ty (ops.take m)=some rows)
    (hr:arun Γ P all base (ops.drop m) (0+(ops.take m).length) ⟨rows.foldl (fun t r=>t.set r.1 (.g (cellsR r.2))) t,H,nx⟩ K):arun Γ P all base ops 0 ⟨t,H,nx⟩ K:=by
  have:=arun_blds (P:=P) hb (ops.take m) rows 0 t h hr
  rwa [List.take_append_drop]at this
theorem bsop_s {ty el:TypeId} {e ee:_} {len sz:Nat} {parts:List (Nat×AV)} {id:Nat} {k:AV→Option (List AV)→Prop} {cs:List AV} (h1:Γ ty=some e) (h2:e.d= .slice el) (h3:Γ el=some ee) (h4:ee.size=sz) (h5:sz≠1) (h6:len*sz≤16777216) (h7:parts.length=len) (h8:allA sz 0 parts=some cs) (hk:k (.hs sz id 0 len) (some cs)):bsop Γ ty len parts id k:=by
  subst h4
  unfold bsop
  simp only[h1,h2,h3]
  rw[show(ee.size==1)=false by simpa using h5,ifS_false]
  rw[h8]
  exact⟨h6,h7,_,rfl,hk⟩
theorem arun_bs {ops all:List Oper} {base i m d:Nat} {rest:List Oper} {T:List AV} {H:HP} {nx:Nat} {K:St→Prop} {ty el:TypeId} {e ee:_} {len sz:Nat} {ps:Array (Nat×Operand)} {ty':TypeId} {pos:String} {after:Array Edge} {cs:List AV} (hd:ops.drop m=⟨some d,.buildSlice ty len ps,ty',pos,after,none⟩::rest)
    (h1:Γ ty=some e) (h2:e.d= .slice el) (h3:Γ el=some ee) (h4:ee.size=sz) (h5:sz≠1) (h6:len*sz≤16777216) (h7:ps.size=len) (h8:allA sz 0 (ps.toList.map fun (i,x)=>(i,evo T x))=some cs) (hk:arun Γ P all base rest (i+1) ⟨T.set d (.hs sz (base+i) 0 len),upd H (base+i) (some cs),nx⟩ K):arun Γ P all base (ops.drop m) i ⟨T,H,nx⟩ K:=by
  rw[hd,ar_one,a_bs]
  exact bsop_s h1 h2 h3 h4 h5 h6 (by simpa using h7) h8 hk
end
theorem vw_hsall {H:HP} {id n s:Nat} {cs:List AV} (hn:cs.length=n*s):Vw (upd H id (some cs)) (.hs s id 0 n) (.v n cs):=
  .hs s id 0 n cs cs (upd_same _ _ _) (by omega) hn fun k x y hx hy=>by rw[Nat.zero_add]at hx;rw[hx]at hy;cases hy;exact .refl _
theorem tblTy_b (v:Int) (a b:ByteArray) (k:AV→Prop) (h:k (.g (cellsR (v,a,b)))):buop env tblTy [(0,.i .i64 v),(1,.s a),(2,.s b)] k:=by
  have:buop env tblTy [(0,.i .i64 v),(1,.s a),(2,.s b)] k=k (.g (cellsR (v,a,b))):=by kernel_rfl
  rw[this];exact h
theorem spec_l30Table_ok:ACp Tryz.prog 39 [] tblV:=by
 refine ACp.introV envOk Tryz.func39 rfl (by kernel_rfl) Tryz.ntmps39 Tryz.results39 (tblV_nr) (fun nx cX=> ?_)
 refine AW.sr envOk (fun N hN=> ?_)
 simp-dsimp-implicitDefEqProofs (disch:=omega) only[go_sem,undef,]
 refine hN _ ?_
 try clear hN N
 refine AW.seq (fun N hN=> ?_)
 refine AW.regionL envOk ?_
 refine arun_split tblTy_b 82 tblD (by kernel_rfl) ?_
 refine arun_bs (m:=82) (cs:=tcells) (sz:=3) (len:=82) rfl rfl rfl rfl rfl (by decide) (by decide) (by kernel_rfl) (by kernel_rfl) ?_
 refine hN _ ?_
 try clear hN N
 refine AW.ret ?_
 simp-dsimp-implicitDefEqProofs (disch:=omega) only[go_sem,undef]
 exact vw_hsall (n:=82) (s:=3) tcells_len
theorem rst_step (c:UInt8) (s:ByteArray):∀k,rst c (k+1) s=rst c k (s.extract (cutAt c s+1) s.size):=by
  intro k
  induction k with
  |zero=>rfl
  |succ k ih=>rw[rst,ih,rst]
theorem pcs_step (c:UInt8) (s:ByteArray):∀k,pcs c (k+1) s=s.extract 0 (cutAt c s)::pcs c k (s.extract (cutAt c s+1) s.size):=by
  intro k
  induction k with
  |zero=>rfl
  |succ k ih=>rw[pcs,ih,rst_step,pcs];rfl
theorem spw_step {c:UInt8} {s:ByteArray} (h:0<cnt c s):spw c s=s.extract 0 (cutAt c s)::spw c (s.extract (cutAt c s+1) s.size):=by
  have h2:=(cut_pos h).2.2
  obtain⟨n,hn⟩:∃n,cnt c s=n+1:=⟨cnt c s-1,by omega⟩
  have h3:cnt c (s.extract (cutAt c s+1) s.size)=n:=by omega
  unfold spw
  rw[hn,h3,pcs_step,rst_step];rfl
theorem spw_zero {c:UInt8} {s:ByteArray} (h:cnt c s=0):spw c s=[s]:=by
  unfold spw;rw[h];rfl
theorem indexByte_app {c:UInt8} (ys:List UInt8):∀xs:List UInt8,xs.count c=0→Lib.indexByte (xs++c::ys) c=xs.length:=by
  intro xs
  induction xs with
  |nil=>intro _;simp[Lib.indexByte]
  | cons x xs ih=>
    intro h
    rw[List.count_cons]at h
    have hx:(x==c)=false:=by
      cases hq:x==c with
      |false=>rfl
      |true=>rw[hq]at h;simp at h
    have h1:=ih (by omega)
    have:¬((xs.length:Int)= -1):=by omega
    simp[Lib.indexByte,hx,h1,this]
def ofL (l:List UInt8):ByteArray:=⟨l.toArray⟩
theorem ofL_l (l:List UInt8):(ofL l).data.toList=l:=rfl
theorem ofL_to (s:ByteArray):ofL s.data.toList=s:=by cases s;simp[ofL]
theorem ofL_ext (l:List UInt8) (a b:Nat):(ofL l).extract a b=ofL ((l.drop a).take (b-a)):=by
  rw[←ofL_to ((ofL l).extract a b),ext_l];rfl
theorem ofL_sz (l:List UInt8):(ofL l).size=l.length:=by
  show l.toArray.size=l.length;simp
def jnc (c:UInt8):List (List UInt8)→List UInt8
  |[]=>[]
  |[x]=>x
  |x::y::xs=>x++c::jnc c (y::xs)
theorem spw_jnc (c:UInt8):∀ps:List (List UInt8),ps≠ []→(∀p,p∈ps→p.count c=0)→spw c (ofL (jnc c ps))=ps.map ofL:=by
  intro ps
  induction ps with
  |nil=>intro h;exact absurd rfl h
  | cons x xs ih=>
    intro _ hp
    have hx:=hp x (List.mem_cons_self ..)
    cases xs with
    |nil=>rw[jnc,spw_zero (by unfold cnt;rw[ofL_l];exact hx)];rfl
    | cons y xs=>
      have hi:=indexByte_app (c:=c) (jnc c (y::xs)) x hx
      have hc:cutAt c (ofL (jnc c (x::y::xs)))=x.length:=by
        unfold cutAt;rw[ofL_l,jnc,hi];rfl
      have hpos:0<cnt c (ofL (jnc c (x::y::xs))):=by
        unfold cnt;rw[ofL_l,jnc,List.count_append,List.count_cons];simp;omega
      rw[spw_step hpos,hc,ofL_ext,ofL_ext,ofL_sz,List.drop_zero,Nat.sub_zero,jnc,List.take_left,List.map_cons,←ih (by simp) (fun p h=>hp p (List.mem_cons_of_mem _ h))]
      congr 2
      rw[show x++c::jnc c (y::xs)=(x++[c])++jnc c (y::xs) by simp,show x.length+1=(x++[c]).length by simp,List.drop_left]
      congr 1
      exact List.take_of_length_le (by simp;omega)
def bigS:Oper→Option ByteArray
  | ⟨_,.call ⟨_,args,_⟩,_,_,_,_⟩=>match args.toList with
    | .const (.string s)::_=>some s
    |_=>none
  |_=>none
noncomputable def gText:ByteArray:=(match (Tryz.f26).body with
  |some c=>(opsOf c).filterMap bigS
  |none=>[]).headD ⟨#[]⟩
def ordT (o:Int):List UInt8:=if o<10 then [UInt8.ofNat (48+o.toNat)]else [UInt8.ofNat (48+o.toNat/10),UInt8.ofNat (48+o.toNat%10)]
def lineP (r:Row):List (List UInt8):=[ordT r.1,r.2.1.data.toList,r.2.2.data.toList]
def lineL (r:Row):List UInt8:=jnc 124 (lineP r)
theorem gText_eq:gText.data.toList=jnc 10 (tbl.map lineL):=by kernel_rfl
theorem gText_cnt:(tbl.map fun r=>(lineL r).count 10)=List.replicate 82 0:=by kernel_rfl
theorem line_cnt:(tbl.map fun r=>(lineP r).map fun p=>p.count 124)=List.replicate 82 [0,0,0]:=by kernel_rfl
theorem ord_ok:(tbl.map fun r=>Lib.parseIntB 64 (ordT r.1))=tbl.map fun r=> .ok r.1:=by kernel_rfl
theorem all_of {α β:Type} {f:α→β} {b:β} {n:Nat} {xs:List α} (h:xs.map f=List.replicate n b) {x:α} (hx:x∈xs):f x=b:=by
  have:f x∈List.replicate n b:=by rw[←h];exact List.mem_map_of_mem hx
  exact(List.mem_replicate.1 this).2
theorem map_of {α β:Type} {f g:α→β}:∀{xs:List α},xs.map f=xs.map g→∀{x:α},x∈xs→f x=g x:=by
  intro xs
  induction xs with
  |nil=>intro _ x hx;cases hx
  | cons y ys ih=>
    intro h x hx
    simp only[List.map_cons,List.cons.injEq]at h
    rcases List.mem_cons.1 hx with rfl|hx
    · exact h.1
    · exact ih h.2 hx
theorem gText_spw:spw 10 gText=tbl.map fun r=>ofL (lineL r):=by
  rw[←ofL_to gText,gText_eq,spw_jnc _ _ (by intro h;have:=congrArg List.length h;rw[List.length_map,tbl_len]at this;cases this) (by
    intro p hp
    obtain⟨r,hr,rfl⟩:=List.mem_map.1 hp
    exact all_of gText_cnt hr),List.map_map]
  rfl
theorem gText_cnt10:cnt 10 gText+1=82:=by rw[←spw_len,gText_spw,List.length_map,tbl_len]
theorem gText_ble:Nat.ble gText.data.toList.length 2097152=true:=by
  rw[gText_eq]
  kernel_rfl
theorem gText_sz:gText.size≤2097152:=by
  have h:=Nat.le_of_ble_eq_true gText_ble
  rw[Array.length_toList]at h
  exact h
theorem line_sz {r:Row} (h:r∈tbl):(ofL (lineL r)).size≤2097152:=by
  have h1:(tbl.map fun r=>Nat.ble (lineL r).length 2097152)=List.replicate 82 true:=by kernel_rfl
  have h2:=all_of h1 h
  rw[ofL_sz];exact Nat.le_of_ble_eq_true h2
theorem ord_sz {r:Row} (h:r∈tbl):(ofL (ordT r.1)).size≤9223372036854775806:=by
  rw[ofL_sz];unfold ordT;split<;>simp
noncomputable def trow (k:Nat):Row:=tbl.getD k (0,⟨#[]⟩,⟨#[]⟩)
noncomputable def num:Nat→Int
  |0=>0
  |k+1=>if (trow k).1=(trow (k+1)).1 then num k+1 else 0
theorem num_le:∀k,0≤num k∧num k≤k:=by
  intro k
  induction k with
  |zero=>exact⟨by decide,by decide⟩
  |succ k ih=>rw[num];split<;>omega
noncomputable def gcell (k:Nat):List AV:=[.i .i64 (trow k).1,.i .i64 (num k),.s (trow k).2.1,.s (trow k).2.2]
noncomputable def gcells:Nat→List AV
  |0=>[]
  |k+1=>gcells k++gcell k
theorem gcells_len:∀k,(gcells k).length=k*4:=by
  intro k
  induction k with
  |zero=>rfl
  |succ k ih=>rw[gcells,List.length_append,ih];simp[gcell];omega
theorem gcells_app:∀n k,k≤n→∃r,gcells n=gcells k++r:=by
  intro n
  induction n with
  | zero => intro k hk;have:k=0:=by omega
            subst this;exact⟨[],rfl⟩
  | succ n ih=>
    intro k hk
    by_cases h:k=n+1
    · subst h;exact⟨[],by simp⟩
    · obtain⟨r,hr⟩:=ih k (by omega)
      exact⟨r++gcell n,by rw[gcells,hr,List.append_assoc]⟩
theorem gcells_get {n k i:Nat} (hk:k<n) (hi:i<4):(gcells n)[k*4+i]? =(gcell k)[i]? :=by
  obtain⟨r,hr⟩:=gcells_app n (k+1) (by omega)
  rw[hr,gcells,List.append_assoc,List.getElem?_append_right (by rw[gcells_len];omega),gcells_len,Nat.add_sub_cancel_left,List.getElem?_append_left (by simpa[gcell]using hi)]
theorem trow_mem {k:Nat} (h:k<82):trow k∈tbl:=by
  unfold trow
  rw[List.getD_eq_getElem?_getD,List.getElem?_eq_getElem (by rw[tbl_len];exact h)]
  exact List.getElem_mem _
theorem line_get {k:Nat} {x:ByteArray} (h:(spw 10 gText)[k]? =some x):k<82∧x=ofL (lineL (trow k)):=by
  rw[gText_spw,List.getElem?_map]at h
  obtain⟨r,h1,rfl⟩:=Option.map_eq_some_iff.1 h
  have hk:=(List.getElem?_eq_some_iff.1 h1).1
  rw[tbl_len]at hk
  exact⟨hk,by unfold trow;rw[List.getD_eq_getElem?_getD,h1];rfl⟩
theorem line_spw {r:Row} (h:r∈tbl):spw 124 (ofL (lineL r))=[ofL (ordT r.1),r.2.1,r.2.2]:=by
  have h1:=all_of line_cnt h
  simp only[lineP,List.map_cons,List.map_nil,List.cons.injEq,and_true]at h1
  unfold lineL
  rw[spw_jnc _ _ (by simp[lineP]) (by
    intro p hp
    simp only[lineP,List.mem_cons,List.not_mem_nil,or_false]at hp
    rcases hp with rfl|rfl|rfl
    · exact h1.1
    · exact h1.2.1
    · exact h1.2.2)]
  simp[lineP,ofL_to]
theorem line_ord {r:Row} (h:r∈tbl):Lib.parseIntB 64 (ofL (ordT r.1)).data.toList= .ok r.1:=map_of ord_ok h
end Go.Proofs.YthncdadmkppclaaGreatDoor
