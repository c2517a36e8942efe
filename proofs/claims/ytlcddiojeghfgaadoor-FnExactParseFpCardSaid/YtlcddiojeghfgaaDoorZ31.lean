import Derived.Test.YtlcddiojeghfgaaDoorZ29
set_option linter.unusedVariables false
set_option linter.unusedSimpArgs false
namespace Go.Proofs.YtlcddiojeghfgaaDoor
section
variable {P:Program} {Γ:TEnv}
inductive Tr
  |nil
  |br (j:Nat) (sub next:Tr)
def opAt:List Oper→Nat→(Oper→Prop)→Prop
  |[],_,_=>False
  |o::_,0,k=>k o
  |_::l,n+1,k=>opAt l n k
def trun (Γ:TEnv) (P:Program) (base:Nat) (ops:List Oper):Tr→St→(St→Prop)→Prop
  | .nil,s,K=>K s
  | .br j sub .nil,s,K=>opAt ops j fun o=>aop Γ P o.dst o.op (base+j) s fun s'=>trun Γ P base ops sub s' K
  | .br j sub (.br k a b),s,K=>(opAt ops j fun o=>aop Γ P o.dst o.op (base+j) s fun s'=>trun Γ P base ops sub s' K)∧trun Γ P base ops (.br k a b) s K
end
section
variable {P:Program} {Γ:TEnv} {cX:Ctx}
end
section
variable {P:Program} {Γ:TEnv}
@[congr] theorem trun_cg {base:Nat} {ops:List Oper} {t:Tr} {s s':St} {K:St→Prop} (h:s=s'):trun Γ P base ops t s K=trun Γ P base ops t s' K:=by rw[h]
@[congr] theorem opAt_cg {ops:List Oper} {i:Nat} {k:Oper→Prop}:opAt ops i k=opAt ops i k:=rfl
theorem tr_n {base:Nat} {ops:List Oper} {s:St} {K:St→Prop}:trun Γ P base ops .nil s K=K s:=by rw[trun]
theorem tr_1 {base j:Nat} {ops:List Oper} {sub:Tr} {s:St} {K:St→Prop}:trun Γ P base ops (.br j sub .nil) s K=opAt ops j fun o=>aop Γ P o.dst o.op (base+j) s fun s'=>trun Γ P base ops sub s' K:=by rw[trun]
theorem tr_2 {base j k:Nat} {ops:List Oper} {sub a b:Tr} {s:St} {K:St→Prop}:trun Γ P base ops (.br j sub (.br k a b)) s K=((opAt ops j fun o=>aop Γ P o.dst o.op (base+j) s fun s'=>trun Γ P base ops sub s' K)∧trun Γ P base ops (.br k a b) s K):=by rw[trun]
theorem at_s {o:Oper} {l:List Oper} {n:Nat} {k:Oper→Prop}:opAt (o::l) (n+1) k=opAt l n k:=by rw[opAt]
theorem at_0 {dst:Option Nat} {op:Op} {ty:TypeId} {pos:String} {after:Array Edge} {g:Option (Nat×Bool)} {l:List Oper} {id:Nat} {s:St} {K:St→Prop}:opAt (⟨dst,op,ty,pos,after,g⟩::l) 0 (fun o=>aop Γ P o.dst o.op id s K)=aop Γ P dst op id s K:=by rw[opAt]
end
attribute [go_sem ↓] tr_n tr_1 tr_2 at_s at_0
end Go.Proofs.YtlcddiojeghfgaaDoor
