import Derived.Test.YtlcddiojeghfgaaDoorZ32
import Derived.Test.YtlcddiojeghfgaaDoorZ41
set_option linter.unusedVariables false
set_option linter.unusedSimpArgs false
namespace Go.Proofs.YtlcddiojeghfgaaDoor
theorem ifne_yes {P:Program} {o:Oper} {ev:Operand→AV} {H:HP} {id:Nat} {ty rt te:TypeId} {pe:Value} {x:Operand} (ho:o.op= .binOp .neq ty x (.const .nilIface) rt) (hx:ev x= .c (.iface te pe)) (hxc:ev (.const .nilIface)= .c .nilIface) (hty:ifB P ty=true) {k:AV→HP→Prop} (h:k (.b true) H):OpS P o ev H id k:=by
  intro L Av w ρ hs hfn hL hi hops
  have hu:=hops x (by rw[ho];simp[Op.operands])
  rw[hx]at hu
  have hu2:=hu.c_inv
  have hv:=hops (.const .nilIface) (by rw[ho];simp[Op.operands])
  rw[hxc]at hv
  have hv2:=hv.c_inv
  obtain⟨ms,hms⟩:∃ms,P.underlying ty=some (.interface ms):=by
    unfold ifB at hty
    split at hty
    · exact⟨_,by assumption⟩
    · cases hty
  have rt:(underlying ty).run P w= .ok (.interface ms) w:=by simp[go_sem,underlying,hms]
  have hq:∀dd:Nat,(Op.equalIn (dd+1) ty (.iface te pe) .nilIface).run P w= .ok false w:=by
    intro dd
    rw[Op.equalIn.eq_2]
    simp[rt]
  have:=hq 9999
  refine .of_value (u:= .bool true) (w':=w) ?_ ⟨_,H,L,h,fun _ _=>rfl,hs,Step.refl _ _ _,.b _⟩
  simp[execOp,ho,hu2,hv2,go_sem,binOp,Op.equal,Op.maxDepth,this]
def ifP (v:Value):Prop:=v= .nilIface∨∃te pe,v= .iface te pe
def erV:VL:=[(0,ifP),(1,ifP)]
theorem step_below {L:LM} {w w':World} (h:RowKit.Below w.heap.size w w'):Step L noH w L noH w':=
  let ⟨a,b,c,d,e⟩:=h
  ⟨fun _ _ h=>h,a,b,c,d,fun i hi _=>e i hi,fun _ _ h=>h⟩
theorem parseInt_bad (s:ByteArray) (hs:s.size≤281474976710656) (h:∀v,Lib.parseIntB 64 s.data.toList≠ .ok v) (nx:Nat) (H:HP):ACv erV Tryd.prog 14 nx H [.s s,.i .i64 10,.i .i64 64] (fun nx' H' r=>(nx'=nx∧H'=H)∧∃z te pe,r= .t [.i .i64 z,.c (.iface te pe)]):=by
  refine⟨⟨_,Tryd.func14,by kernel_rfl,by kernel_rfl⟩,fun L Av w us hs' hfr ha hgl hgv=> ?_⟩
  obtain⟨u,v',t,rfl,h1,h2,h3⟩:=args3 ha
  rw[h1.s_inv,h2.i_inv,h3.i_inv]
  have fin:∀(w':World) (z:Int) (te:TypeId) (pe:Value),RowKit.Below w.heap.size w w'→∃u r L' nx' H',Ending.returned (.tuple #[.int .i64 z,.iface te pe])= .returned u∧((nx'=nx∧H'=H)∧∃z te pe,r=AV.t [.i .i64 z,.c (.iface te pe)])∧nx≤nx'∧(∀i,nx'≤i→L' i=none)∧(∀i,i<nx→L' i=L i)∧SR L' H' Av w'∧Step L H w L' H' w'∧R L' w' (MM L' H' Av) r u:=by
    intro w' z te pe bel
    obtain⟨hsr,hst⟩:=hs'.kept (step_below bel)
    refine⟨_,_,L,nx,H,rfl,⟨⟨rfl,rfl⟩,z,te,pe,rfl⟩,Nat.le_refl _,hfr,fun _ _=>rfl,hsr,hst,.t _ _ rfl fun k x hk=> ?_⟩
    match k,hk with
    |0,hk=>cases hk;exact .i _ _
    |1,hk=>cases hk;exact .c _
  rcases hp:Lib.parseIntB 64 s.data.toList with v|_|_
  · exact absurd hp (h v)
  · obtain⟨_,ev,hv,hev⟩:=hgv (0,ifP) (by simp[erV])
    refine(Any.strconv_ParseInt_10_at64_syntax Tryd.laysC174 s hs hp ev w hv hev).mono ?_
    rintro e w' ⟨N,rfl,_,_,bel⟩
    exact fin _ _ _ _ bel
  · obtain⟨_,ev,hv,hev⟩:=hgv (1,ifP) (by simp[erV])
    refine(Tryd.strconv_ParseInt_10_at64_range s hs hp ev w hv hev).mono ?_
    rintro e w' ⟨N,rfl,_,_,bel⟩
    exact fin _ _ _ _ bel
end Go.Proofs.YtlcddiojeghfgaaDoor
