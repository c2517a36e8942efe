import Derived.Test.YthncdadmkppclaaGreatDoorZ43
import Derived.Test.YthncdadmkppclaaGreatDoorZ45
set_option linter.unusedVariables false
set_option linter.unusedSimpArgs false
namespace Go.Proofs.YthncdadmkppclaaGreatDoor
def ifB (P:Program) (ty:TypeId):Bool:=match P.underlying ty with
  |some (.interface _)=>true
  |_=>false
theorem ifne_ok {P:Program} {o:Oper} {ev:Operand→AV} {H:HP} {id:Nat} {ty rt:TypeId} {x:Operand} (ho:o.op= .binOp .neq ty x (.const .nilIface) rt) (hx:ev x= .c .nilIface) (hxc:ev (.const .nilIface)= .c .nilIface) (hty:ifB P ty=true) {k:AV→HP→Prop} (h:k (.b false) H):OpS P o ev H id k:=by
  intro L Av w ρ hs hfn hL hi hops
  have hu:=hops x (by rw[ho];simp[Op.operands])
  rw[hx]at hu
  have hu2:=hu.c_inv
  have hv:=hops (.const .nilIface) (by rw[ho];simp[Op.operands])
  rw[hxc]at hv
  have hv2:=hv.c_inv
  obtain⟨ms,hms⟩:∃ms,P.underlying ty=some (.interface ms):=by
    unfold ifB at hty
    split at hty
    · exact⟨_,by assumption⟩
    · cases hty
  have rt:(underlying ty).run P w= .ok (.interface ms) w:=by simp[go_sem,underlying,hms]
  have hq:∀dd:Nat,(Op.equalIn (dd+1) ty .nilIface .nilIface).run P w= .ok true w:=by
    intro dd
    rw[Op.equalIn.eq_2]
    simp[rt]
  have:=hq 9999
  refine .of_value (u:= .bool false) (w':=w) ?_ ⟨_,H,L,h,fun _ _=>rfl,hs,Step.refl _ _ _,.b _⟩
  simp[execOp,ho,hu2,hv2,eqGuard_nil_constR,binOp,Op.equal,Op.maxDepth,this]
def relI (s:PD) (l:List UInt8):Option PD:=
  match l with
  | x ::h::y::e::r=>if h=94∧e=61∧97≤x.toNat∧x.toNat-97<s.1.length∧y≠61 then
      (parC s.1.length r).bind fun w=>
        match genC s.1.length [y]with
        |none=>some (s.1,s.2.1.set (x.toNat-97) (vecC s.1.length w),s.2.2)
        |some j=>if j<x.toNat-97 then some (s.1,s.2.1,s.2.2.set j ((s.2.2.getD j []).set (x.toNat-97-j-1) (vecC s.1.length w)))else none
    else none
  |_=>none
def stI (s:PD) (ps:List (List UInt8)):Nat→Option PD
  |0=>some s
  |k+1=>(stI s ps k).bind fun t=>relI t (ps.getD k [])
def ppI (l:List UInt8):Option PD:=if (Lib.split l [59,32]).length=Lib.count l [59,32]+1 then match Lib.split l [59,32]with
  |[]=>none
  |h::ps=>(ordC h).bind fun os=>(stI (os,trP os.length,trC os.length) ps ps.length).bind fun s=>if presC s=true∧txC s.1 s.2.1 s.2.2=l then some s else none
  else none
theorem ppI_all:((List.range 82).map fun k=>decide (ppI (tL k)=ppS (tL k)))=List.replicate 82 true:=by kernel_rfl
theorem cut_61 {x y:UInt8} {r:List UInt8} (hx:x≠61) (hy:y≠61):cutC 61 (x::94::y::61::r)=([x,94,y],r,true):=by
  have hi:Lib.indexByte (x::94::y::61::r) 61=3:=by simp[Lib.indexByte,hx,hy]
  rw[cutC,if_pos (by rw[hi];decide),hi]
  rfl
theorem cut_94 {x y:UInt8} (hx:x≠94):cutC 94 [x,94,y]=([x],[y],true):=by
  have hi:Lib.indexByte [x,94,y] 94=1:=by simp[Lib.indexByte,hx]
  rw[cutC,if_pos (by rw[hi];decide),hi]
  rfl
theorem relI_at {s s2:PD} {l:List UInt8} (h:relI s l=some s2):∃x y r w,∃i:Nat,cutC 61 l=([x,94,y],r,true)∧cutC 94 [x,94,y]=([x],[y],true)∧parC s.1.length r=some w∧genC s.1.length [x]=some i∧i<s.1.length∧r.length≤l.length∧
    ((genC s.1.length [y]=none∧s2=(s.1,s.2.1.set i (vecC s.1.length w),s.2.2))∨∃j,genC s.1.length [y]=some j∧j<i∧s2=(s.1,s.2.1,s.2.2.set j ((s.2.2.getD j []).set (i-j-1) (vecC s.1.length w)))):=by
  unfold relI at h
  split at h
  · rename_i x hh y e r
    split at h
    · rename_i hc
      obtain⟨rfl,rfl,hx1,hx2,hy⟩:=hc
      obtain⟨w,hw,h⟩:=Option.bind_eq_some_iff.1 h
      have hx61:x≠61:=fun e=>by subst e;simp at hx1
      have hx94:x≠94:=fun e=>by subst e;simp at hx1
      refine⟨x,y,r,w,x.toNat-97,cut_61 hx61 hy,cut_94 hx94,hw,by rw[genC,if_pos (by omega)],hx2,by simp only[List.length_cons];omega,?_⟩
      split at h
      · rename_i hg
        cases h
        exact .inl ⟨hg,rfl⟩
      · rename_i j hg
        split at h
        · rename_i hj
          cases h
          exact .inr ⟨j,hg,hj,rfl⟩
        · cases h
    · cases h
  · cases h
theorem relI_shp {s s2:PD} {l:List UInt8} {n:Nat} (h:relI s l=some s2) (hn:n≤6) (hs:Shp n s.1 s.2.1 s.2.2):Shp n s2.1 s2.2.1 s2.2.2∧s2.1=s.1:=by
  obtain⟨x,y,r,w,i,_,_,hw,_,hi,_,⟨_,h⟩|⟨j,_,hj,h⟩⟩:=relI_at h
  · subst h
    have hvl:(vecC s.1.length w).length≤1048576:=by rw[vecC_len,hs.o];omega
    exact⟨⟨hs.o,by simpa using hs.p,hs.c,hs.r,hs.pl.set hvl,hs.cl⟩,rfl⟩
  · subst h
    have hvl:(vecC s.1.length w).length≤1048576:=by rw[vecC_len,hs.o];omega
    have hr0:rowslen (s.2.2.getD j []):=getD_mem hs.cl.v .nil _
    refine⟨⟨hs.o,hs.p,by simpa using hs.c,fun i hi=> ?_,hs.pl,hs.cl.set (hr0.set hvl)⟩,rfl⟩
    rw[gd_set]
    split
    · rename_i e
      rw[List.length_set,e.1];exact hs.r i hi
    · exact hs.r i hi
theorem stI_mono {s:PD} {ps:List (List UInt8)}:∀(d k:Nat) {t:PD},stI s ps (k+d)=some t→∃u,stI s ps k=some u:=by
  intro d
  induction d with
  |zero=>intro k t h;exact⟨t,h⟩
  | succ d ih=>
    intro k t h
    rw[←Nat.add_assoc,stI]at h
    obtain⟨u,hu,_⟩:=Option.bind_eq_some_iff.1 h
    exact ih k hu
theorem splitB_L (l sep:List UInt8):Lib.splitB (ofL sep) 0 (Lib.countB (ofL l) (ofL sep)) (ofL l)=(Lib.split l sep).map ofL:=by
  have h:=Lib.splitB_data (ofL sep) 0 (Lib.countB (ofL l) (ofL sep)) (ofL l)
  rw[ofL_l,ofL_l]at h
  rw[Lib.split,show Lib.count l sep=Lib.countB (ofL l) (ofL sep) by rw[Lib.countB,ofL_l,ofL_l],←h,List.map_map]
  exact(List.map_id' _).symm
theorem split_sm (l sep:List UInt8):∀p∈Lib.split l sep,p.length≤l.length:=by
  have h:∀(k:Nat) (s:List UInt8),∀p∈Lib.splitK sep 0 k s,p.length≤s.length:=by
    intro k
    induction k with
    |zero=>intro s p hp;simp[Lib.splitK]at hp;rw[hp];exact Nat.le_refl _
    | succ k ih=>
      intro s p hp
      unfold Lib.splitK at hp
      split at hp
      · simp at hp;rw[hp];exact Nat.le_refl _
      · rcases List.mem_cons.1 hp with rfl|hp
        · rw[List.length_take];omega
        · have:=ih _ _ hp;rw[List.length_drop]at this;omega
  exact h _ l
theorem digC_parse {p:List UInt8} {d:Int} (h:digC p=some d):Lib.parseIntB 64 p= .ok d:=by
  unfold digC at h
  split at h
  · split at h
    · rename_i c hc
      cases h
      rcases hc with rfl|rfl|rfl|rfl<;>rfl
    · cases h
  · cases h
theorem prs_len (l sep:List UInt8) (h:(Lib.split l sep).length=Lib.count l sep+1):(Lib.splitB (ofL sep) 0 (Lib.countB (ofL l) (ofL sep)) (ofL l)).length=Lib.countB (ofL l) (ofL sep)+1:=by
  rw[splitB_L,List.length_map,h,Lib.countB,ofL_l,ofL_l]
theorem impl_presentationText_ok (os:List Int) (pw:List (List Int)) (cj:List (List (List Int))) (h:presOk os pw cj):ACp Tryz.prog 63 [prsP os pw cj] (.s (ofL (txC os pw cj))):=by
  by_cases h0:0<os.length
  · exact impl_presentationText_pos os pw cj h h0
  · have e1:os=[]:=List.eq_nil_of_length_eq_zero (by omega)
    have e2:pw=[]:=List.eq_nil_of_length_eq_zero (by have:=h.1.2.1;omega)
    have e3:cj=[]:=List.eq_nil_of_length_eq_zero (by have:=h.1.2.2;omega)
    subst e1 e2 e3
    exact impl_presentationText_zero
end Go.Proofs.YthncdadmkppclaaGreatDoor
