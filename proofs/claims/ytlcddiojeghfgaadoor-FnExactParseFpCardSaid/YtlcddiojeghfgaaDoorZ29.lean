import Derived.Test.YtlcddiojeghfgaaDoorZ07
set_option linter.unusedVariables false
set_option linter.unusedSimpArgs false
namespace Go.Proofs.YtlcddiojeghfgaaDoor
theorem Waits.lt {ops:List Oper} (hlt:∀j o,ops[j]? =some o→∀e∈o.after.toList,Region.binds .any e=true→e.on<j) {i j:Nat} (h:Waits ops i j):i<j:=by
  induction h with
  |one o e ho he hb hi=>rw[←hi];exact hlt _ o ho e he hb
  |step a b iha ihb=>omega
section
variable {P:Program} {Γ:TEnv}
def apH (Γ:TEnv) (op:Op) (t:List AV) (H:HP) (id:Nat) (k:AV→HP→Prop):Prop:=
  match op with
  | .call ⟨.builtin .append,args,tys⟩=>match args.toList,tys.toList with
    |[x,y],[t1,t2]=>apop Γ H t1 t2 (evo t x) (evo t y) id k
    |_,_=>False
  |_=>False
section
variable {cX:Ctx}
def hfree (ops:List Oper) (m b:Nat):Bool:=ops.zipIdx.all fun (o,i)=> !(decide (b<i)&& decide (i<m))|| !(hdep o.op||lays o.op)
theorem apH_a {x y:Operand} {t1 t2:TypeId} {t:List AV} {H:HP} {id:Nat} {k:AV→HP→Prop}:apH Γ (.call ⟨.builtin .append,[x,y].toArray,[t1,t2].toArray⟩) t H id k=apop Γ H t1 t2 (evo t x) (evo t y) id k:=rfl
@[congr] theorem apH_cg {op:Op} {t t':List AV} {H H':HP} {id:Nat} {k:AV→HP→Prop} (h:t=t') (h2:H=H'):apH Γ op t H id k=apH Γ op t' H' id k:=by rw[h,h2]
attribute [go_sem ↓] apH_a
end
end
end Go.Proofs.YtlcddiojeghfgaaDoor
namespace Go.Proofs.YtlcddiojeghfgaaDoor
section
variable {P:Program} {Γ:TEnv}
def hrunF (Γ:TEnv) (P:Program) (base:Nat):List Bool→List Oper→Nat→List AV→(List AV→Prop)→Prop
  |true::m,o::rest,i,t,k=>qop Γ P o.op t noH (base+i) fun r _=>hrunF Γ P base m rest (i+1) (putA t o.dst r) k
  |false::m,_::rest,i,t,k=>hrunF Γ P base m rest (i+1) t k
  |[],_,_,t,k=>k t
  |_::_,[],_,t,k=>k t
def arunF (Γ:TEnv) (P:Program) (base:Nat):List Bool→List Oper→Nat→St→(St→Prop)→Prop
  |true::m,_::rest,i,s,K=>arunF Γ P base m rest (i+1) s K
  |false::m,o::rest,i,s,K=>aop Γ P o.dst o.op (base+i) s fun s'=>arunF Γ P base m rest (i+1) s' K
  |[],o::rest,i,s,K=>aop Γ P o.dst o.op (base+i) s fun s'=>arunF Γ P base [] rest (i+1) s' K
  |_,[],_,s,K=>K s
section
variable {cX:Ctx}
end
@[congr] theorem hrunF_cg {base i:Nat} {m:List Bool} {rest:List Oper} {t t':List AV} {k:List AV→Prop} (h:t=t'):hrunF Γ P base m rest i t k=hrunF Γ P base m rest i t' k:=by rw[h]
@[congr] theorem arunF_cg {base i:Nat} {m:List Bool} {rest:List Oper} {s s':St} {K:St→Prop} (h:s=s'):arunF Γ P base m rest i s K=arunF Γ P base m rest i s' K:=by rw[h]
theorem hrF_t {base i:Nat} {m:List Bool} {rest:List Oper} {t:List AV} {k:List AV→Prop} {dst:Option Nat} {op:Op} {ty:TypeId} {pos:String} {after:Array Edge} {g:Option (Nat×Bool)}:
    hrunF Γ P base (true::m) (⟨dst,op,ty,pos,after,g⟩::rest) i t k=qop Γ P op t noH (base+i) fun r _=>hrunF Γ P base m rest (i+1) (putA t dst r) k:=by rw[hrunF]
theorem hrF_f {base i:Nat} {m:List Bool} {o:Oper} {rest:List Oper} {t:List AV} {k:List AV→Prop}:hrunF Γ P base (false::m) (o::rest) i t k=hrunF Γ P base m rest (i+1) t k:=by rw[hrunF]
theorem hrF_n {base i:Nat} {rest:List Oper} {t:List AV} {k:List AV→Prop}:hrunF Γ P base [] rest i t k=k t:=by cases rest<;>rw[hrunF]
theorem arF_t {base i:Nat} {m:List Bool} {o:Oper} {rest:List Oper} {s:St} {K:St→Prop}:arunF Γ P base (true::m) (o::rest) i s K=arunF Γ P base m rest (i+1) s K:=by rw[arunF]
theorem arF_f {base i:Nat} {m:List Bool} {rest:List Oper} {s:St} {K:St→Prop} {dst:Option Nat} {op:Op} {ty:TypeId} {pos:String} {after:Array Edge} {g:Option (Nat×Bool)}:
    arunF Γ P base (false::m) (⟨dst,op,ty,pos,after,g⟩::rest) i s K=aop Γ P dst op (base+i) s fun s'=>arunF Γ P base m rest (i+1) s' K:=by rw[arunF]
theorem arF_n {base i:Nat} {s:St} {K:St→Prop}:arunF Γ P base [] [] i s K=K s:=by rw[arunF]
end
attribute [go_sem] hrF_t hrF_f hrF_n arF_t arF_f arF_n
end Go.Proofs.YtlcddiojeghfgaaDoor
