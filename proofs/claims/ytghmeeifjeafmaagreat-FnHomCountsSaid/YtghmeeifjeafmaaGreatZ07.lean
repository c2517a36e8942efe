import Derived.Test.YtghmeeifjeafmaaGreatZ06
set_option linter.unusedVariables false
set_option linter.unusedSimpArgs false
namespace Go.Proofs.YtghmeeifjeafmaaGreat
variable {P:Program} {Γ:TEnv}
theorem ex1_some {α:Type} (a:α) (f:α→Prop):ex1 (some a) f=f a:=by simp[ex1]
@[congr] theorem ex1_cg {α:Type} {o o':Option α} (f:α→Prop) (h:o=o'):ex1 o f=ex1 o' f:=by rw[h]
@[congr] theorem ex2_cg {α:Type} {p p':α→Prop} (f:α→Prop) (h:∀a,p a=p' a):ex2 p f=ex2 p' f:=by rw[funext h]
@[congr] theorem arun_cg {ops rest:List Oper} {base i:Nat} {s s':St} {K:St→Prop} (h:s=s'):arun Γ P ops base rest i s K=arun Γ P ops base rest i s' K:=by rw[h]
@[congr] theorem hrun_cg {ops rest:List Oper} {base i:Nat} {t t':List AV} {H H':HP} {k:List AV→HP→Prop} (h:t=t') (h2:H=H'):hrun Γ P ops base rest i t H k=hrun Γ P ops base rest i t' H' k:=by rw[h,h2]
@[congr] theorem gop_cg {ops:List Oper} {g:Option (Nat×Bool)} {t t':List AV} {y n:List AV→Prop} (h:t=t'):gop ops g t y n=gop ops g t' y n:=by rw[h]
@[congr] theorem aop_cg {d:Option Nat} {op:Op} {id:Nat} {s s':St} {K:St→Prop} (h:s=s'):aop Γ P d op id s K=aop Γ P d op id s' K:=by rw[h]
@[congr] theorem qop_cg {op:Op} {t t':List AV} {H:HP} {id:Nat} {k:AV→Option (List AV)→Prop} (h:t=t'):qop Γ P op t H id k=qop Γ P op t' H id k:=by rw[h]
@[congr] theorem bop_cg {op:BinOp} {ty:TypeId} {x x' y y':AV} {k:AV→Prop} (h:x=x') (h2:y=y'):bop Γ op ty x y k=bop Γ op ty x' y' k:=by rw[h,h2]
@[congr] theorem uop_cg {op:UnOp} {x x':AV} {k:AV→Prop} (h:x=x'):uop op x k=uop op x' k:=by rw[h]
@[congr] theorem cop_cg {a b:TypeId} {x x':AV} {k:AV→Prop} (h:x=x'):cop Γ a b x k=cop Γ a b x' k:=by rw[h]
@[congr] theorem lop_cg {H:HP} {ty:TypeId} {x x':AV} {k:AV→Prop} (h:x=x'):lop Γ H ty x k=lop Γ H ty x' k:=by rw[h]
@[congr] theorem rdc_cg {e:TE} {o o':Nat} {cs cs':List AV} {k:AV→Prop} (h:o=o') (h2:cs=cs'):rdc e o cs k=rdc e o' cs' k:=by rw[h,h2]
@[congr] theorem fop_cg {ty ty':TypeId} {f:Nat} {k:Nat→Prop} (h:ty=ty'):fop Γ ty f k=fop Γ ty' f k:=by rw[h]
@[congr] theorem padd_cg {x x':AV} {n n':Nat} {k:AV→Prop} (h:x=x') (h2:n=n'):padd x n k=padd x' n' k:=by rw[h,h2]
@[congr] theorem iop_cg {ty:TypeId} {x x' y y':AV} {k:AV→Prop} (h:x=x') (h2:y=y'):iop Γ ty x y k=iop Γ ty x' y' k:=by rw[h,h2]
@[congr] theorem eop_cg {n:Nat} {x x':AV} {k:AV→Prop} (h:x=x'):eop x n k=eop x' n k:=by rw[h]
@[congr] theorem fvop_cg {ty:TypeId} {f:Nat} {x x':AV} {k:AV→Prop} (h:x=x'):fvop Γ ty x f k=fvop Γ ty x' f k:=by rw[h]
@[congr] theorem nop_cg {x x':AV} {k:AV→Prop} (h:x=x'):nop x k=nop x' k:=by rw[h]
@[congr] theorem mxop_cg {x x' y y':AV} {k:AV→Prop} (h:x=x') (h2:y=y'):mxop x y k=mxop x' y' k:=by rw[h,h2]
@[congr] theorem mnop_cg {x x' y y':AV} {k:AV→Prop} (h:x=x') (h2:y=y'):mnop x y k=mnop x' y' k:=by rw[h,h2]
@[congr] theorem capop_cg {ty:TypeId} {x x':AV} {k:AV→Prop} (h:x=x'):capop Γ ty x k=capop Γ ty x' k:=by rw[h]
@[congr] theorem lenop_cg {ty:TypeId} {x x':AV} {k:AV→Prop} (h:x=x'):lenop Γ ty x k=lenop Γ ty x' k:=by rw[h]
@[congr] theorem sop_cg {ty:TypeId} {x x':AV} {lo lo' hi hi':Option AV} {k:AV→Prop} (h:x=x') (h2:lo=lo') (h3:hi=hi'):sop Γ ty x lo hi k=sop Γ ty x' lo' hi' k:=by rw[h,h2,h3]
@[congr] theorem stop_cg {H:HP} {ty:TypeId} {x x' y y':AV} {k:AV→HP→Prop} (h:x=x') (h2:y=y'):stop Γ H ty x y k=stop Γ H ty x' y' k:=by rw[h,h2]
@[congr] theorem apst_cg {H:HP} {x x':AV} {xs xs':List AV} {id:Nat} {k:AV→HP→Prop} (h:x=x') (h2:xs=xs'):apst H x xs id k=apst H x' xs' id k:=by rw[h,h2]
@[congr] theorem apop_cg {H:HP} {t1 t2:TypeId} {x x' y y':AV} {id:Nat} {k:AV→HP→Prop} (h:x=x') (h2:y=y'):apop Γ H t1 t2 x y id k=apop Γ H t1 t2 x' y' id k:=by rw[h,h2]
@[congr] theorem mkop_cg {ty:TypeId} {x x' y y':AV} {id:Nat} {k:AV→Option (List AV)→Prop} (h:x=x') (h2:y=y'):mkop Γ ty x y id k=mkop Γ ty x' y' id k:=by rw[h,h2]
@[congr] theorem bsop_cg {ty:TypeId} {len:Nat} {ps ps':List (Nat×AV)} {id:Nat} {k:AV→Option (List AV)→Prop} (h:ps=ps'):bsop Γ ty len ps id k=bsop Γ ty len ps' id k:=by rw[h]
@[congr] theorem buop_cg {ty:TypeId} {ps ps':List (Nat×AV)} {k:AV→Prop} (h:ps=ps'):buop Γ ty ps k=buop Γ ty ps' k:=by rw[h]
@[congr] theorem AC_cg {f:FuncId} {nx nx':Nat} {H H':HP} {as as':List AV} {Q:Nat→HP→AV→Prop} (h1:nx=nx') (h:H=H') (h2:as=as'):AC P f nx H as Q=AC P f nx' H' as' Q:=by rw[h1,h,h2]
@[congr] theorem RC_cg {f:FuncId} {H H':HP} {as as':List AV} {r:AV} (h:H=H') (h2:as=as'):RC P f H as r=RC P f H' as' r:=by rw[h,h2]
theorem gs_s {α:Type} {x d:α} {xs:List α} {n:Nat}:(x::xs).getD (n+1) d=xs.getD n d:=by simp
theorem gs_z {α:Type} {x d:α} {xs:List α}:(x::xs).getD 0 d=x:=by simp
theorem ge_s {α:Type} {x:α} {xs:List α} {n:Nat}:(x::xs)[n+1]? =xs[n]? :=by simp
theorem ge_z {α:Type} {x:α} {xs:List α}:(x::xs)[0]? =some x:=by simp
theorem ss_s {α:Type} {x y:α} {xs:List α} {n:Nat}:(x::xs).set (n+1) y=x::xs.set n y:=by simp
theorem ss_z {α:Type} {x y:α} {xs:List α}:(x::xs).set 0 y=y::xs:=by simp
def dstOf (ops:List Oper) (j:Nat):Option Nat:=(ops[j]?).bind (·.dst)
theorem dst_z {dst:Option Nat} {op:Op} {ty:TypeId} {pos:String} {after:Array Edge} {g:Option (Nat×Bool)} {ops:List Oper}:dstOf (⟨dst,op,ty,pos,after,g⟩::ops) 0=dst:=by simp[dstOf]
theorem dst_s {o:Oper} {ops:List Oper} {j:Nat}:dstOf (o::ops) (j+1)=dstOf ops j:=by simp[dstOf]
def gopV (v:Option AV) (d:Nat) (w:Bool) (t:List AV) (y n:List AV→Prop):Prop:=
  match v with
  |some (.b x)=>gopB x w (y (t.set d (.b w))) (n (t.set d (.b (!w)))) (.mk _) (.mk _)
  |some (.c (.tuple _))=>n t
  |_=>False
def gopD (o:Option Nat) (w:Bool) (t:List AV) (y n:List AV→Prop):Prop:=
  match o with
  |some d=>gopV t[d]? d w t y n
  |none=>False
theorem gD {d:Nat} {w:Bool} {t:List AV} {y n:List AV→Prop}:gopD (some d) w t y n=gopV t[d]? d w t y n:=rfl
theorem gV1 {x:Bool} {d:Nat} {w:Bool} {t:List AV} {y n:List AV→Prop}:gopV (some (.b x)) d w t y n=gopB x w (y (t.set d (.b w))) (n (t.set d (.b (!w)))) (.mk _) (.mk _):=rfl
theorem gV2 {vs:Array Value} {d:Nat} {w:Bool} {t:List AV} {y n:List AV→Prop}:gopV (some (.c (.tuple vs))) d w t y n=n t:=rfl
@[congr] theorem gopD_cg {o o':Option Nat} {w:Bool} {t:List AV} {y n:List AV→Prop} (h:o=o'):gopD o w t y n=gopD o' w t y n:=by rw[h]
@[congr] theorem gopV_cg {v v':Option AV} {d:Nat} {w:Bool} {t:List AV} {y n:List AV→Prop} (h:v=v'):gopV v d w t y n=gopV v' d w t y n:=by rw[h]
theorem ar_nil {ops:List Oper} {base i:Nat} {s:St} {K:St→Prop}:arun Γ P ops base [] i s K=K s:=rfl
theorem ar_one {ops rest:List Oper} {base i:Nat} {s:St} {K:St→Prop} {dst:Option Nat} {op:Op} {ty:TypeId} {pos:String} {after:Array Edge}:
    arun Γ P ops base (⟨dst,op,ty,pos,after,none⟩::rest) i s K=aop Γ P dst op (base+i) s (fun s'=>arun Γ P ops base rest (i+1) s' K):=rfl
theorem ar_if {ops rest:List Oper} {base i j:Nat} {w:Bool} {t:List AV} {H:HP} {nx:Nat} {K:St→Prop} {dst:Option Nat} {op:Op} {ty:TypeId} {pos:String} {after:Array Edge}:
    arun Γ P ops base (⟨dst,op,ty,pos,after,some (j,w)⟩::rest) i ⟨t,H,nx⟩ K=gopD (dstOf ops j) w t (fun t=>aop Γ P dst op (base+i) ⟨t,H,nx⟩ fun s'=>arun Γ P ops base rest (i+1) s' K) (fun t=>arun Γ P ops base rest (i+1) ⟨putA t dst (.c undef),H,nx⟩ K):=by
  simp only[arun,gop,gopD,gopV,dstOf];cases (ops[j]?).bind (·.dst)with
  |none=>rfl
  | some d=>cases t[d]? with
    |none=>rfl
    |some v=>cases v<;>rfl
theorem hr_nil {ops:List Oper} {base i:Nat} {t:List AV} {H:HP} {k:List AV→HP→Prop}:hrun Γ P ops base [] i t H k=k t H:=rfl
theorem hr_one {ops rest:List Oper} {base i:Nat} {t:List AV} {H:HP} {k:List AV→HP→Prop} {dst:Option Nat} {op:Op} {ty:TypeId} {pos:String} {after:Array Edge}:
    hrun Γ P ops base (⟨dst,op,ty,pos,after,none⟩::rest) i t H k=qop Γ P op t H (base+i) fun r d=>hrun Γ P ops base rest (i+1) (putA t dst r) (updo H (base+i) d) k:=rfl
theorem hr_if {ops rest:List Oper} {base i j:Nat} {w:Bool} {t:List AV} {H:HP} {k:List AV→HP→Prop} {dst:Option Nat} {op:Op} {ty:TypeId} {pos:String} {after:Array Edge}:
    hrun Γ P ops base (⟨dst,op,ty,pos,after,some (j,w)⟩::rest) i t H k=gopD (dstOf ops j) w t (fun t=>qop Γ P op t H (base+i) fun r d=>hrun Γ P ops base rest (i+1) (putA t dst r) (updo H (base+i) d) k) (fun t=>hrun Γ P ops base rest (i+1) (putA t dst (.c undef)) H k):=by
  simp only[hrun,gop,gopD,gopV,dstOf];cases (ops[j]?).bind (·.dst)with
  |none=>rfl
  | some d=>cases t[d]? with
    |none=>rfl
    |some v=>cases v<;>rfl
@[congr] theorem resop_cg {s s':St} {rs:List ResultVar} {k:List AV→Prop} (h:s=s'):resop Γ s rs k=resop Γ s' rs k:=by rw[h]
theorem AW.regionL {cX:Ctx} (hG:GOk P Γ) {n:Nat} {ops:List Oper} {s:St} {K:Exit→St→Prop} (h:arun Γ P ops s.nx ops 0 ⟨s.t,s.H,s.nx+ops.length⟩ (K .normal)):AW cX P (.region n ops.toArray false) s K:=
  AW.region hG h
theorem AW.sr {cX:Ctx} (hG:GOk P Γ) {n:Nat} {ops:List Oper} {y:Code} {s:St} {K:Exit→St→Prop} (h:∀N:St→Prop,(∀s',AW cX P y s' K→N s')→arun Γ P ops s.nx ops 0 ⟨s.t,s.H,s.nx+ops.length⟩ N):AW cX P (.seq (.region n ops.toArray false) y) s K:=
  AW.seq fun N hN=>AW.region hG (h N hN)
theorem AW.drawL {cX:Ctx} (hG:GOk P Γ) (hmx:P.follows .mixedOrders=true) {n:Nat} {ops:List Oper} {s:St} {K:Exit→St→Prop} (m:Nat) (hd:dok ops m=true)
    (h:hrun Γ P ops s.nx (ops.take m) 0 s.t s.H fun t H'=>arun Γ P ops s.nx (ops.drop m) m ⟨t,H',s.nx+ops.length⟩ (K .normal)):AW cX P (.region n ops.toArray true) s K:=
  AW.draw hG hmx m hd h
theorem AW.loopN {cX:Ctx} {c:Code} {s:St} {K:Exit→St→Prop} {α:Type} (T:α→List AV) (H:α→HP) (I:α→Nat→Prop) (μ:α→Nat) (x0:α) (h0:I x0 s.nx) (ht:wks s.t (T x0)) (hH:∀id cs,H x0 id=some cs→s.H id=some cs)
    (round:∀x m,I x m→AW cX P c ⟨T x,H x,m⟩ (thn K fun s'=>∃y,wks s'.t (T y)∧(∀id cs,H y id=some cs→s'.H id=some cs)∧I y s'.nx∧μ y<μ x)):AW cX P (.loop c) s K:=
  AW.loop (α:=α×Nat) (fun x=>⟨T x.1,H x.1,x.2⟩) (fun x=>I x.1 x.2) (fun x=>μ x.1) (x0,s.nx) h0 ⟨ht,hH,Nat.le_refl _⟩
    (fun x hx=>(round x.1 x.2 hx).mono (fun e s' h=>by
      cases e<;>simp only[thn]at h ⊢
      case normal=>obtain⟨y,h1,h2,h3,h4⟩:=h;exact⟨(y,s'.nx),⟨h1,h2,Nat.le_refl _⟩,h3,h4⟩
      all_goals exact h))
end Go.Proofs.YtghmeeifjeafmaaGreat
namespace Go.Proofs.YtghmeeifjeafmaaGreat
theorem evo_t {t:List AV} {n:Nat}:evo t (.tmp n)=t.getD n .j:=by simp[evo]
theorem evo_c {t:List AV} {x:Value}:evo t (.const x)=ofV x:=by simp[evo]
theorem evo_f {t:List AV} {n:FuncId}:evo t (.func n)= .f n []:=by simp[evo]
theorem evo_g {t:List AV} {n:Nat}:evo t (.global n)= .c (.pointer (some ⟨n,0,none⟩)):=by simp[evo]
theorem ofV_i {k:IntKind} {n:Int}:ofV (.int k n)= .i k n:=by simp[ofV,ofV1]
theorem ofV_b {x:Bool}:ofV (.bool x)= .b x:=by simp[ofV,ofV1]
theorem ofV_s {x:ByteArray}:ofV (.string x)= .s x:=by simp[ofV,ofV1]
theorem ofV_nl:ofV (.slice none 0 0)= .nl:=by simp[ofV,ofV1]
theorem ofV_g {cs:List Value}:ofV (.agg cs.toArray)= .g (cs.map ofV1):=by simp[ofV]
theorem ofV1_i {k:IntKind} {n:Int}:ofV1 (.int k n)= .i k n:=by simp[ofV1]
theorem ofV1_b {x:Bool}:ofV1 (.bool x)= .b x:=by simp[ofV1]
theorem ofV1_s {x:ByteArray}:ofV1 (.string x)= .s x:=by simp[ofV1]
theorem ofV1_nl:ofV1 (.slice none 0 0)= .nl:=by simp[ofV1]
theorem putA_s {t:List AV} {d:Nat} {x:AV}:putA t (some d) x=t.set d x:=by simp[putA]
theorem putA_n {t:List AV} {x:AV}:putA t none x=t:=by simp[putA]
theorem updo_s {H:HP} {id:Nat} {cs:List AV}:updo H id (some cs)=upd H id (some cs):=by simp[updo]
theorem updo_n {H:HP} {id:Nat}:updo H id none=H:=by simp[updo]
attribute [go_sem] evo_t evo_c evo_f evo_g ofV_i ofV_b ofV_s ofV_nl ofV_g ofV1_i ofV1_b ofV1_s ofV1_nl putA_s putA_n updo_s updo_n
inductive Tf {α:Type}:(α→Prop)→Type
  |mk (f:α→Prop):Tf f
inductive Tq:(Nat→HP→AV→Prop)→Type
  |mk (f:Nat→HP→AV→Prop):Tq f
def ex2t {α:Type} (p f:α→Prop) (t:Tf f):Prop:=ex2 p f
def ACt (P:Program) (f:FuncId) (nx:Nat) (H:HP) (as:List AV) (Q:Nat→HP→AV→Prop) (t:Tq Q):Prop:=AC P f nx H as Q
@[congr] theorem ex2t_cg {α:Type} {p p' f:α→Prop} {t:Tf f} (h:∀a,p a=p' a):ex2t p f t=ex2t p' f t:=by rw[funext h]
@[congr] theorem ACt_cg {P:Program} {f:FuncId} {nx nx':Nat} {H H':HP} {as as':List AV} {Q:Nat→HP→AV→Prop} {t:Tq Q} (h1:nx=nx') (h:H=H') (h2:as=as'):ACt P f nx H as Q t=ACt P f nx' H' as' Q t:=by rw[h1,h,h2]
section
variable {P:Program} {Γ:TEnv} {t:List AV} {H:HP} {id:Nat} {k:AV→Option (List AV)→Prop}
theorem q_move {x:Operand}:qop Γ P (.move x) t H id k=k (evo t x) none:=rfl
theorem q_assign {x:Operand}:qop Γ P (.assign x) t H id k=k (evo t x) none:=rfl
def pickV (v:AV) (y n:Prop) (a:Tg y) (b:Tg n):Prop:=match v with
  | .b z=>pickB z y n a b
  |_=>False
theorem pV {z:Bool} {y n:Prop} {a:Tg y} {b:Tg n}:pickV (.b z) y n a b=pickB z y n a b:=rfl
theorem q_pick {c x y:Operand}:qop Γ P (.pick c x y) t H id k=pickV (evo t c) (k (evo t x) none) (k (evo t y) none) (.mk _) (.mk _):=by
  simp only[qop,pickV];cases evo t c<;>rfl
theorem q_bin {op:BinOp} {ty ty':TypeId} {x y:Operand}:qop Γ P (.binOp op ty x y ty') t H id k=bop Γ op ty (evo t x) (evo t y) fun r=>k r none:=rfl
theorem q_un {op:UnOp} {ty:TypeId} {x:Operand}:qop Γ P (.unOp op ty x) t H id k=uop op (evo t x) fun r=>k r none:=rfl
theorem q_conv {a b:TypeId} {x:Operand}:qop Γ P (.convert a b x) t H id k=cop Γ a b (evo t x) fun r=>k r none:=rfl
theorem q_load {ty:TypeId} {x:Operand}:qop Γ P (.load ty x) t H id k=lop Γ H ty (evo t x) fun r=>k r none:=rfl
theorem q_fld {ty:TypeId} {x:Operand} {f:Nat}:qop Γ P (.fieldAddr ty x f) t H id k=fop Γ ty f fun off=>padd (evo t x) off fun r=>k r none:=rfl
theorem q_idx {ty:TypeId} {x i:Operand}:qop Γ P (.indexAddr ty x i) t H id k=iop Γ ty (evo t x) (evo t i) fun r=>k r none:=rfl
theorem q_slice {ty:TypeId} {x:Operand} {lo hi:Option Operand}:qop Γ P (.slice ty x lo hi none) t H id k=sop Γ ty (evo t x) (lo.map (evo t)) (hi.map (evo t)) fun r=>k r none:=rfl
theorem q_ext {x:Operand} {n:Nat}:qop Γ P (.extract x n) t H id k=eop (evo t x) n fun r=>k r none:=rfl
theorem q_nil {x:Operand}:qop Γ P (.nilCheck x) t H id k=nop (evo t x) fun r=>k r none:=rfl
theorem q_sx {ty:TypeId} {x i:Operand}:qop Γ P (.index ty x i) t H id k=sxop Γ ty (evo t x) (evo t i) fun r=>k r none:=rfl
theorem q_build {ty:TypeId} {ps:Array (Nat×Operand)}:qop Γ P (.build ty ps) t H id k=buop Γ ty (ps.toList.map fun (i,x)=>(i,evo t x)) fun r=>k r none:=rfl
theorem q_bs {ty:TypeId} {n:Nat} {ps:Array (Nat×Operand)}:qop Γ P (.buildSlice ty n ps) t H id k=bsop Γ ty n (ps.toList.map fun (i,x)=>(i,evo t x)) id k:=rfl
theorem q_mk {ty:TypeId} {x y:Operand}:qop Γ P (.makeSlice ty x y) t H id k=mkop Γ ty (evo t x) (evo t y) id k:=rfl
def alV (o:Option TE) (id:Nat) (k:AV→Option (List AV)→Prop):Prop:=match o with
  |some e=>k (.q id 0) (some (zcells e))
  |none=>False
theorem aV {e:TE}:alV (some e) id k=k (.q id 0) (some (zcells e)):=rfl
@[congr] theorem alV_cg {o o':Option TE} (h:o=o'):alV o id k=alV o' id k:=by rw[h]
@[congr] theorem pickV_cg {v v':AV} {y n:Prop} {a:Tg y} {b:Tg n} (h:v=v'):pickV v y n a b=pickV v' y n a b:=by rw[h]
theorem q_alloc {ty:TypeId}:qop Γ P (.alloc ty) t H id k=alV (Γ ty) id k:=by simp only[qop,alV];cases Γ ty<;>rfl
def boxV (v:AV) (id:Nat) (k:AV→Option (List AV)→Prop):Prop:=okA v=true∧k (.q id 0) (some (cellsA v))
@[congr] theorem boxV_cg {v v':AV} (h:v=v'):boxV v id k=boxV v' id k:=by rw[h]
theorem q_box {ty:TypeId} {x:Operand}:qop Γ P (.box ty x) t H id k=boxV (evo t x) id k:=rfl
theorem q_fv {ty:TypeId} {x:Operand} {f:Nat}:qop Γ P (.field ty x f) t H id k=fvop Γ ty (evo t x) f fun r=>k r none:=rfl
theorem q_max {x y:Operand} {tys:Array TypeId}:qop Γ P (.call ⟨.builtin .max,[x,y].toArray,tys⟩) t H id k=mxop (evo t x) (evo t y) fun r=>k r none:=rfl
theorem q_min {x y:Operand} {tys:Array TypeId}:qop Γ P (.call ⟨.builtin .min,[x,y].toArray,tys⟩) t H id k=mnop (evo t x) (evo t y) fun r=>k r none:=rfl
theorem q_cap {x:Operand} {ty:TypeId} {tys:List TypeId}:qop Γ P (.call ⟨.builtin .cap,[x].toArray,(ty::tys).toArray⟩) t H id k=capop Γ ty (evo t x) fun r=>k r none:=rfl
theorem q_len {x:Operand} {ty:TypeId} {tys:List TypeId}:qop Γ P (.call ⟨.builtin .len,[x].toArray,(ty::tys).toArray⟩) t H id k=lenop Γ ty (evo t x) fun r=>k r none:=rfl
theorem q_call {f:FuncId} {args:Array Operand} {tys:Array TypeId}:qop Γ P (.call ⟨.value (.func f),args,tys⟩) t H id k=ex2t (fun r=>RC P f H (args.toList.map (evo t)) r) (fun r=>k r none) (.mk _):=rfl
theorem fV {f:Nat} {cs:List AV} {k:Nat→List AV→Prop}:fnV (.f f cs) k=k f cs:=rfl
@[congr] theorem fnV_cg {v v':AV} {k:Nat→List AV→Prop} (h:v=v'):fnV v k=fnV v' k:=by rw[h]
theorem mfV {f:FuncId} {cs:List AV} {k:AV→Prop}:mfop (.func f) [] cs k=k (.f f cs):=rfl
@[congr] theorem mfop_cg {fn:Fn} {a:List Operand} {cs cs':List AV} {k:AV→Prop} (h:cs=cs'):mfop fn a cs k=mfop fn a cs' k:=by rw[h]
theorem q_callT {n:Nat} {args:Array Operand} {tys:Array TypeId}:qop Γ P (.call ⟨.value (.tmp n),args,tys⟩) t H id k=fnV (evo t (.tmp n)) fun f cs=>ex2t (fun r=>RC P f H (args.toList.map (evo t)++cs) r) (fun r=>k r none) (.mk _):=rfl
theorem q_mf {fn:Fn} {a b:Array Operand}:qop Γ P (.makeFunc fn a b) t H id k=mfop fn a.toList (b.toList.map (evo t)) fun r=>k r none:=rfl
variable {s:St} {K:St→Prop} {dst:Option Nat}
theorem a_callT {n:Nat} {args:Array Operand} {tys:Array TypeId}:aop Γ P dst (.call ⟨.value (.tmp n),args,tys⟩) id s K=fnV (evo s.t (.tmp n)) fun f cs=>ACt P f s.nx s.H (args.toList.map (evo s.t)++cs) (fun nx' H' r=>K ⟨putA s.t dst r,H',nx'⟩) (.mk _):=rfl
theorem a_mf {fn:Fn} {a b:Array Operand}:aop Γ P dst (.makeFunc fn a b) id s K=mfop fn a.toList (b.toList.map (evo s.t)) fun r=>K ⟨putA s.t dst r,s.H,s.nx⟩:=rfl
theorem a_move {x:Operand}:aop Γ P dst (.move x) id s K=K ⟨putA s.t dst (evo s.t x),s.H,s.nx⟩:=rfl
theorem a_assign {x:Operand}:aop Γ P dst (.assign x) id s K=K ⟨putA s.t dst (evo s.t x),s.H,s.nx⟩:=rfl
theorem a_pick {c x y:Operand}:aop Γ P dst (.pick c x y) id s K=qop Γ P (.pick c x y) s.t s.H id fun r d=>K ⟨putA s.t dst r,updo s.H id d,s.nx⟩:=rfl
theorem a_bin {op:BinOp} {ty ty':TypeId} {x y:Operand}:aop Γ P dst (.binOp op ty x y ty') id s K=nilop Γ op ty (evo s.t x) (evo s.t y) fun r=>K ⟨putA s.t dst r,s.H,s.nx⟩:=rfl
theorem a_un {op:UnOp} {ty:TypeId} {x:Operand}:aop Γ P dst (.unOp op ty x) id s K=uop op (evo s.t x) fun r=>K ⟨putA s.t dst r,s.H,s.nx⟩:=rfl
theorem a_conv {a b:TypeId} {x:Operand}:aop Γ P dst (.convert a b x) id s K=cvop Γ s.H a b (evo s.t x) fun r=>K ⟨putA s.t dst r,s.H,s.nx⟩:=rfl
theorem a_load {ty:TypeId} {x:Operand}:aop Γ P dst (.load ty x) id s K=lop Γ s.H ty (evo s.t x) fun r=>K ⟨putA s.t dst r,s.H,s.nx⟩:=rfl
theorem a_fld {ty:TypeId} {x:Operand} {f:Nat}:aop Γ P dst (.fieldAddr ty x f) id s K=fop Γ ty f fun off=>padd (evo s.t x) off fun r=>K ⟨putA s.t dst r,s.H,s.nx⟩:=rfl
theorem a_idx {ty:TypeId} {x i:Operand}:aop Γ P dst (.indexAddr ty x i) id s K=iop Γ ty (evo s.t x) (evo s.t i) fun r=>K ⟨putA s.t dst r,s.H,s.nx⟩:=rfl
theorem a_slice {ty:TypeId} {x:Operand} {lo hi:Option Operand}:aop Γ P dst (.slice ty x lo hi none) id s K=sop Γ ty (evo s.t x) (lo.map (evo s.t)) (hi.map (evo s.t)) fun r=>K ⟨putA s.t dst r,s.H,s.nx⟩:=rfl
theorem a_ext {x:Operand} {n:Nat}:aop Γ P dst (.extract x n) id s K=eop (evo s.t x) n fun r=>K ⟨putA s.t dst r,s.H,s.nx⟩:=rfl
theorem a_nil {x:Operand}:aop Γ P dst (.nilCheck x) id s K=nop (evo s.t x) fun r=>K ⟨putA s.t dst r,s.H,s.nx⟩:=rfl
theorem a_build {ty:TypeId} {ps:Array (Nat×Operand)}:aop Γ P dst (.build ty ps) id s K=buop Γ ty (ps.toList.map fun (i,x)=>(i,evo s.t x)) fun r=>K ⟨putA s.t dst r,s.H,s.nx⟩:=rfl
theorem a_bs {ty:TypeId} {n:Nat} {ps:Array (Nat×Operand)}:aop Γ P dst (.buildSlice ty n ps) id s K=bsop Γ ty n (ps.toList.map fun (i,x)=>(i,evo s.t x)) id fun r d=>K ⟨putA s.t dst r,updo s.H id d,s.nx⟩:=rfl
theorem a_mk {ty:TypeId} {x y:Operand}:aop Γ P dst (.makeSlice ty x y) id s K=mkop Γ ty (evo s.t x) (evo s.t y) id fun r d=>K ⟨putA s.t dst r,updo s.H id d,s.nx⟩:=rfl
theorem a_alloc {ty:TypeId}:aop Γ P dst (.alloc ty) id s K=alV (Γ ty) id fun r d=>K ⟨putA s.t dst r,updo s.H id d,s.nx⟩:=by
  rw[←q_alloc (P:=P) (t:=s.t) (H:=s.H)];rfl
theorem a_box {ty:TypeId} {x:Operand}:aop Γ P dst (.box ty x) id s K=boxV (evo s.t x) id fun r d=>K ⟨putA s.t dst r,updo s.H id d,s.nx⟩:=rfl
theorem a_fv {ty:TypeId} {x:Operand} {f:Nat}:aop Γ P dst (.field ty x f) id s K=fvop Γ ty (evo s.t x) f fun r=>K ⟨putA s.t dst r,s.H,s.nx⟩:=rfl
theorem a_max {x y:Operand} {tys:Array TypeId}:aop Γ P dst (.call ⟨.builtin .max,[x,y].toArray,tys⟩) id s K=mxop (evo s.t x) (evo s.t y) fun r=>K ⟨putA s.t dst r,s.H,s.nx⟩:=rfl
theorem a_min {x y:Operand} {tys:Array TypeId}:aop Γ P dst (.call ⟨.builtin .min,[x,y].toArray,tys⟩) id s K=mnop (evo s.t x) (evo s.t y) fun r=>K ⟨putA s.t dst r,s.H,s.nx⟩:=rfl
theorem a_cap {x:Operand} {ty:TypeId} {tys:List TypeId}:aop Γ P dst (.call ⟨.builtin .cap,[x].toArray,(ty::tys).toArray⟩) id s K=capop Γ ty (evo s.t x) fun r=>K ⟨putA s.t dst r,s.H,s.nx⟩:=rfl
theorem a_len {x:Operand} {ty:TypeId} {tys:List TypeId}:aop Γ P dst (.call ⟨.builtin .len,[x].toArray,(ty::tys).toArray⟩) id s K=lenop Γ ty (evo s.t x) fun r=>K ⟨putA s.t dst r,s.H,s.nx⟩:=rfl
theorem a_call {f:FuncId} {args:Array Operand} {tys:Array TypeId}:aop Γ P dst (.call ⟨.value (.func f),args,tys⟩) id s K=ACt P f s.nx s.H (args.toList.map (evo s.t)) (fun nx' H' r=>K ⟨putA s.t dst r,H',nx'⟩) (.mk _):=rfl
theorem a_store {ty:TypeId} {x y:Operand}:aop Γ P dst (.store ty x y) id s K=stop Γ s.H ty (evo s.t x) (evo s.t y) fun r H'=>K ⟨putA s.t dst r,H',s.nx⟩:=rfl
theorem a_append {x y:Operand} {t1 t2:TypeId}:aop Γ P dst (.call ⟨.builtin .append,[x,y].toArray,[t1,t2].toArray⟩) id s K=apop Γ s.H t1 t2 (evo s.t x) (evo s.t y) id fun r H'=>K ⟨putA s.t dst r,H',s.nx⟩:=rfl
theorem a_mm {ty:TypeId}:aop Γ P dst (.makeMap ty none) id s K=mkopM id (fun r H'=>K ⟨putA s.t dst r,H',s.nx⟩) s.H:=rfl
theorem a_ml {ty:TypeId} {x i:Operand} {ok:Bool}:aop Γ P dst (.lookup ty x i ok) id s K=mlop Γ s.H ty (evo s.t x) (evo s.t i) ok fun r=>K ⟨putA s.t dst r,s.H,s.nx⟩:=rfl
theorem a_mu {ty:TypeId} {x i v:Operand}:aop Γ P dst (.mapUpdate ty x i v) id s K=muop Γ s.H ty (evo s.t x) (evo s.t i) (evo s.t v) fun r H'=>K ⟨putA s.t dst r,H',s.nx⟩:=rfl
theorem a_ins {ty:TypeId} {x i v:Operand}:aop Γ P dst (.insert ty x i v) id s K=muop Γ s.H ty (evo s.t x) (evo s.t i) (evo s.t v) fun r H'=>K ⟨putA s.t dst r,H',s.nx⟩:=rfl
theorem a_rg {ty:TypeId} {x:Operand}:aop Γ P dst (.range ty x) id s K=rgop Γ s.H ty (evo s.t x) id fun r H'=>K ⟨putA s.t dst r,H',s.nx⟩:=rfl
theorem a_nx {x:Operand}:aop Γ P dst (.next x false) id s K=nxop s.H (evo s.t x) fun r H'=>K ⟨putA s.t dst r,H',s.nx⟩:=rfl
theorem a_sx {ty:TypeId} {x i:Operand}:aop Γ P dst (.index ty x i) id s K=sxop Γ ty (evo s.t x) (evo s.t i) fun r=>K ⟨putA s.t dst r,s.H,s.nx⟩:=rfl
theorem a_cp {x y:Operand} {t1:TypeId} {ts:List TypeId}:aop Γ P dst (.call ⟨.builtin .copy,[x,y].toArray,(t1::ts).toArray⟩) id s K=cpop Γ s.H t1 (evo s.t x) (evo s.t y) fun r H'=>K ⟨putA s.t dst r,H',s.nx⟩:=rfl
theorem a_en {x:Operand}:aop Γ P dst (.entry x) id s K=enop s.H (evo s.t x) fun r=>K ⟨putA s.t dst r,s.H,s.nx⟩:=rfl
end
@[congr] theorem mlop_cg {Γ:TEnv} {H:HP} {ty:TypeId} {x x' i i':AV} {ok:Bool} {k:AV→Prop} (h:x=x') (h2:i=i'):mlop Γ H ty x i ok k=mlop Γ H ty x' i' ok k:=by rw[h,h2]
@[congr] theorem muop_cg {Γ:TEnv} {H:HP} {ty:TypeId} {x x' i i' v v':AV} {k:AV→HP→Prop} (h:x=x') (h2:i=i') (h3:v=v'):muop Γ H ty x i v k=muop Γ H ty x' i' v' k:=by rw[h,h2,h3]
@[congr] theorem rgop_cg {Γ:TEnv} {H:HP} {ty:TypeId} {x x':AV} {id:Nat} {k:AV→HP→Prop} (h:x=x'):rgop Γ H ty x id k=rgop Γ H ty x' id k:=by rw[h]
@[congr] theorem nxop_cg {H:HP} {x x':AV} {k:AV→HP→Prop} (h:x=x'):nxop H x k=nxop H x' k:=by rw[h]
@[congr] theorem enop_cg {H:HP} {x x':AV} {k:AV→Prop} (h:x=x'):enop H x k=enop H x' k:=by rw[h]
@[congr] theorem sxop_cg {Γ:TEnv} {ty:TypeId} {x x' i i':AV} {k:AV→Prop} (h:x=x') (h2:i=i'):sxop Γ ty x i k=sxop Γ ty x' i' k:=by rw[h,h2]
@[congr] theorem cvop_cg {Γ:TEnv} {H:HP} {a b:TypeId} {x x':AV} {k:AV→Prop} (h:x=x'):cvop Γ H a b x k=cvop Γ H a b x' k:=by rw[h]
@[congr] theorem cpop_cg {Γ:TEnv} {H:HP} {ty:TypeId} {x x' y y':AV} {k:AV→HP→Prop} (h:x=x') (h2:y=y'):cpop Γ H ty x y k=cpop Γ H ty x' y' k:=by rw[h,h2]
@[congr] theorem nxK_cg {m m':List AV} {l l':List Nat} {o:Prop} {k:Nat→AV→AV→Prop} (h:m=m') (h2:l=l'):nxK m l o k=nxK m' l' o k:=by rw[h,h2]
attribute [go_sem] cvop byN_map sxop cpop mkopM mlop muop rgop nxop enop mget mset dec prsm
attribute [go_sem ↓] a_sx a_cp a_mm a_ml a_mu a_ins a_rg a_nx a_en
@[congr] theorem nilop_cg {P:Program} {Γ:TEnv} {op:BinOp} {ty:TypeId} {x x' y y':AV} {k:AV→Prop} (h:x=x') (h2:y=y'):nilop Γ op ty x y k=nilop Γ op ty x' y' k:=by rw[h,h2]
attribute [go_sem] fvop g4op capop mxop mnop fV mfV nilop Int.toNat_zero Nat.sub_zero Option.getD_some Option.getD_none pV aV boxV hr_nil hr_one hr_if List.drop_nil
attribute [go_sem ↓] q_move q_assign q_pick q_bin q_un q_sx q_conv q_load q_fld q_idx q_slice q_ext q_nil q_build q_bs q_mk q_alloc q_box q_len q_cap q_max q_min q_fv q_call q_callT q_mf a_move a_assign a_pick a_bin a_un a_conv a_load a_fld a_idx a_slice a_ext a_nil a_build a_bs a_mk a_alloc a_box a_len a_cap a_max a_min a_fv a_call a_callT a_mf a_store a_append
attribute [go_sem ↓] gB1 gB2 gB3 gB4 pB1 pB2
@[congr] theorem ifS_cg {c c':Bool} {a b:Prop} (h:c=c'):ifS c a b=ifS c' a b:=by rw[h]
@[congr] theorem apstS_cg {sz:Nat} {H:HP} {x x':AV} {m m':Nat} {xs xs':List AV} {id:Nat} {k:AV→HP→Prop} (h:x=x') (h2:m=m') (h3:xs=xs'):apstS sz H x m xs id k=apstS sz H x' m' xs' id k:=by rw[h,h2,h3]
theorem ifS_true {a b:Prop}:ifS true a b=a:=rfl
theorem ifS_false {a b:Prop}:ifS false a b=b:=rfl
theorem beq11:((1:Nat)==1)=true:=rfl
attribute [go_sem] ifS_true ifS_false beq11 Nat.reduceBEq allA vwS apstS lenS c_hs o_hs k_hs
theorem apst_n {H:HP} {xs:List AV} {id:Nat} {k:AV→HP→Prop}:apst H .nl xs id k=((xs=[]→k .nl H)∧(xs≠ []→k (.h id 0 xs.length) (upd H id (some xs)))):=rfl
theorem apst_h {H:HP} {i off n:Nat} {xs:List AV} {id:Nat} {k:AV→HP→Prop}:apst H (.h i off n) xs id k=ex1 (H i) fun cs=>off+n≤cs.length∧k (.h id 0 (n+xs.length)) (upd (upd H i none) id (some ((cs.drop off).take n++xs))):=rfl
theorem lenA_h {i off n:Nat}:lenA (.h i off n)=n:=rfl
theorem lenA_n:lenA .nl=0:=rfl
attribute [go_sem] ar_nil ar_one ar_if dst_z dst_s gD gV1 gV2 bop uop cop lop rdc fop padd iop eop nop lenop sop optI stop apop apst_n apst_h lenA_h lenA_n vw mkop bsop buop fillA flds setAll c_i c_b c_s c_nl c_v c_p c_h c_q c_m c_g o_i o_b o_s o_nl o_v o_p o_h o_q o_m k_i k_b k_s k_nl k_v k_p k_h k_q k_m k_g List.all_cons List.all_nil Bool.and_true zcells TE.agg isIntD ss_s ss_z gs_s gs_z ge_s ge_z Option.bind_some Option.map_some Option.map_none List.map_cons List.map_nil List.length_cons List.length_nil true_and and_true Bool.not_true Bool.not_false forall_const reduceCtorEq false_implies implies_true Nat.zero_add Bool.false_eq_true if_false if_true vc_int vc_bool vc_str vc_sl vc_ptr vc_agg ga0 gs1 Int.toNat_natCast Int.le_refl Nat.le_refl Nat.mul_one gd_i gd_r gd_c List.length_map List.length_append List.length_take List.length_replicate upd_same Option.some.injEq exists_eq_left' ex1_some andO upd_ne sp0 sp1 spn Nat.add_zero List.drop_zero List.take_succ_cons List.take_zero List.drop_succ_cons List.take_nil
theorem AC.intro' {P:Program} {Γ:TEnv} (hG:GOk P Γ) {f:FuncId} {fn:Func} {c:Code} {n:Nat} {rs:Array ResultVar} (hf:P.funcs[f]? =some fn) (hb:fn.body=some c) (hn:(fn.name== "runtime.NumGoroutine")=false) (hnt:fn.ntmps=n) (hres:fn.results=rs) {as:List AV} {nx:Nat} {H:HP} {Q:Nat→HP→AV→Prop}
    (h:∀cX:Ctx,AW cX P c ⟨as++List.replicate (n-as.length) .j,H,nx⟩ (finK Γ rs.toList Q)):AC P f nx H as Q:=
  AC.intro hG hf hb hn rfl (by rw[hnt,hres];exact h)
theorem ACp.intro' {P:Program} {Γ:TEnv} (hG:GOk P Γ) {f:FuncId} {fn:Func} {c:Code} {n:Nat} {rs:Array ResultVar} (hf:P.funcs[f]? =some fn) (hb:fn.body=some c) (hn:(fn.name== "runtime.NumGoroutine")=false) (hnt:fn.ntmps=n) (hres:fn.results=rs) {as:List AV} {r:AV} (hr:NR r)
    (h:∀nx (cX:Ctx),AW cX P c ⟨as++List.replicate (n-as.length) .j,noH,nx⟩ (finK Γ rs.toList fun _ _ r'=>r'=r)):ACp P f as r:=
  ACp.intro hG hf hb hn rfl hr (fun nx=>by rw[hnt,hres];exact h nx)
@[congr] theorem AW_cg {cX:Ctx} {P:Program} {c:Code} {s s':St} {K:Exit→St→Prop} (h:s=s'):AW cX P c s K=AW cX P c s' K:=by rw[h]
theorem AW.condT {cX:Ctx} {P:Program} {c:Operand} {x y:Code} {s:St} {K:Exit→St→Prop} (hc:evo s.t c= .b true) (h:AW cX P x s K):AW cX P (.cond c x y) s K:=AW.cond hc (fun _=>h) (fun e=>by cases e)
theorem AW.condF {cX:Ctx} {P:Program} {c:Operand} {x y:Code} {s:St} {K:Exit→St→Prop} (hc:evo s.t c= .b false) (h:AW cX P y s K):AW cX P (.cond c x y) s K:=AW.cond hc (fun e=>by cases e) (fun _=>h)
attribute [go_sem] List.replicate_succ List.replicate_zero List.cons_append List.nil_append sl List.foldl_cons List.foldl_nil thn blk finK resop oneOr
noncomputable def tf (p:Prop):Bool:= @decide p (Classical.propDecidable p)
theorem tf_t {p:Prop} (h:p):tf p=true:=by simp[tf,h]
theorem tf_f {p:Prop} (h:¬p):tf p=false:=by simp[tf,h]
theorem tf_iff {p:Prop}:tf p=true↔p:=by simp[tf]
theorem tf_iff' {p:Prop}:tf p=false↔¬p:=by simp[tf]
theorem tf_eq {p q:Prop} (h:p↔q):tf p=tf q:=by rw[propext h]
theorem bt {a b:Bool} (h:a=b):AV.b a=AV.b b:=by rw[h]
theorem it {k:IntKind} {a b:Int} (h:a=b):AV.i k a=AV.i k b:=by rw[h]
theorem cn:(∀(p:Prop) [Decidable p],(decide p=true)=p)∧(∀(p:Prop) [Decidable p],(decide p=false)=¬p)∧(∀(α:Type) [BEq α] [LawfulBEq α] (a b:α),((a==b)=true)=(a=b))∧(∀(α:Type) [BEq α] [LawfulBEq α] (a b:α),((a==b)=false)=¬(a=b))∧(∀(α:Type) [BEq α] [LawfulBEq α] (a b:α),((a !=b)=true)=¬(a=b))∧(∀(α:Type) [BEq α] [LawfulBEq α] (a b:α),((a !=b)=false)=(a=b))∧
    (∀b:Bool,((!b)=true)=(b=false))∧(∀b:Bool,((!b)=false)=(b=true))∧(!true)=false∧(!false)=true∧(∀b:Bool,(¬b=true)=(b=false))∧(∀b:Bool,(¬b=false)=(b=true))∧(∀a b:Int,(a≥b)=(b≤a))∧(∀a b:Int,(a>b)=(b<a))∧(∀(α:Type) (a b:α),(a≠b)=¬(a=b))∧(∀a b:Int,(¬a<b)=(b≤a))∧(∀a b:Int,(¬a≤b)=(b<a))∧(∀p:Prop,(tf p=true)=p)∧∀p:Prop,(tf p=false)=¬p:=
  ⟨fun _=>by simp,fun _=>by simp,fun _ _ _ _ _=>by simp,fun _ _ _ a b=>by simp,fun _ _ _ _ _=>by simp,fun _ _ _ _ _=>by simp,by simp,by simp,rfl,rfl,by simp,by simp,by simp,by simp,fun _ _ _=>rfl,by simp,by simp,fun _=>propext tf_iff,fun _=>propext tf_iff'⟩
theorem ints_take (xs:List Int) {n:Nat} (h:n≤xs.length):AV.v n (List.take n (xs.map (.i .i64)))=ints (xs.take n):=by
  simp[ints,List.map_take,h]
theorem getD_take {α:Type} (xs:List α) (d:α) {n j:Nat} (h:j<n):(xs.take n).getD j d=xs.getD j d:=by
  simp[List.getElem?_take,h]
end Go.Proofs.YtghmeeifjeafmaaGreat
