import Derived.WalkKit
import Derived.WalkSpells
import Derived.Orders
import Derived.TacticsIn
import Derived.OrdersIn
import Derived.RangeFuncCalls
import Derived.RangeFuncRecord
set_option linter.unusedVariables false
set_option linter.unusedSimpArgs false

namespace Go.Proofs.YtgknbnkmilddhaaGreat
theorem A0{P:Prop}(h:P:=by omega):P:=h
theorem AB{P:Prop}(h:P:=by simp):P:=h
theorem A7{P:Prop}(h:P:=by kernel_rfl):P:=h
theorem A9{P:Prop}(h:P:=by first|omega|(dsimp only;omega)):P:=h
theorem BX{P:Prop}(h:P:=by decide):P:=h
inductive AV where
  |j
  |i (k:IntKind) (n:Int)
  |b (x:Bool)
  |s (x:ByteArray)
  |c (x:Value)
  |nl
  |v (n:Nat) (cs:List AV)
  |p (o:Nat) (cs:List AV)
  |h (id o n:Nat)
  |hs (s id o n:Nat)
  |q (id o:Nat)
  |g (cs:List AV)
  |t (vs:List AV)
  |f (fn:Nat) (cs:List AV)
  |m (id:Nat)
  |it (id:Nat)
structure Loc where
  CP:Nat
  off:Nat
  cap:Nat
  kd:Nat
abbrev LM:=Nat->Option Loc
abbrev HP:=Nat->Option (List AV)
def LB(L:LM)(H:HP)(b:Nat):Prop:=∃id cs l,H id=some cs/\L id=some l/\l.CP=b
def MM(L:LM)(H:HP)(Av:Nat->Prop)(b:Nat):Prop:=Av b\/LB L H b
inductive R (L:LM) (w:World) (M:Nat->Prop):AV->Value->Prop
  |j (u:Value):R L w M .j u
  |i (k:IntKind) (n:Int):R L w M (.i k n) (.int k n)
  |b (x:Bool):R L w M (.b x) (.bool x)
  |s (x:ByteArray):R L w M (.s x) (.string x)
  |c (x:Value):R L w M (.c x) x
  |nl:R L w M .nl (.slice none 0 0)
  |v0 (a:Option Addr) (cp:Nat):R L w M (.v 0 []) (.slice a 0 cp)
  | v (n:Nat) (cs:List AV) (b off cp:Nat) (arr:Array Value) (e:TypeId) (f:Nat×Nat) (us:Nat->Value) (hM:¬M b) (hb:w.heap[b]? =some (.cells arr e f))
      (hn:n<=cp) (hu:∀k,k<cs.length->arr[off+k]? =some (us k)) (hr:∀k x,cs[k]? =some x->R L w M x (us k)):R L w M (.v n cs) (.slice (some ⟨b,off,none⟩) n cp)
  | p (o:Nat) (cs:List AV) (b off:Nat) (arr:Array Value) (e:TypeId) (f:Nat×Nat) (us:Nat->Value) (hM:¬M b) (hb:w.heap[b]? =some (.cells arr e f))
      (hu:∀k,k<cs.length->arr[off+k]? =some (us k)) (hr:∀k x,cs[k]? =some x->R L w M x (us k)):R L w M (.p o cs) (.pointer (some ⟨b,off+o,none⟩))
  |h (id o n:Nat) (l:Loc) (a:Addr) (cp:Nat) (hl:L id=some l) (hn:n<=cp) (hc:o+cp<=l.cap) (ha:cp=0\/a=⟨l.CP,l.off+o,none⟩) (h0:l.kd=0):R L w M (.h id o n) (.slice (some a) n cp)
  |hs (s id o n:Nat) (l:Loc) (a:Addr) (cp:Nat) (hl:L id=some l) (hn:n<=cp) (hc:o+cp*s<=l.cap) (ha:cp=0\/a=⟨l.CP,l.off+o,none⟩) (h0:l.kd=0):R L w M (.hs s id o n) (.slice (some a) n cp)
  |q (id o:Nat) (l:Loc) (hl:L id=some l) (h0:l.kd=0):R L w M (.q id o) (.pointer (some ⟨l.CP,l.off+o,none⟩))
  |g (cs:List AV) (us:Array Value) (hs:us.size=cs.length) (hr:∀k x,cs[k]? =some x->R L w M x (us.getD k undef)):R L w M (.g cs) (.agg us)
  |t (vs:List AV) (us:Array Value) (hs:us.size=vs.length) (hr:∀k x,vs[k]? =some x->R L w M x (us.getD k undef)):R L w M (.t vs) (.tuple us)
  |f (fn:Nat) (cs:List AV) (us:Array Value) (hs:us.size=cs.length) (hr:∀k x,cs[k]? =some x->R L w M x (us.getD k undef)):R L w M (.f fn cs) (.func (.func fn) #[] us)
  |m (id:Nat) (l:Loc) (hl:L id=some l) (h0:l.kd=1):R L w M (.m id) (.map (some l.CP))
  |it (id:Nat) (l:Loc) (hl:L id=some l) (h0:l.kd=2):R L w M (.it id) (.pointer (some ⟨l.CP,0,none⟩))
def Wf(mb since:Nat)(seen:Array Nat):Nat->Value
  |0=> .map (some mb)
  |1=> .int .i64 since
  |k+2=> .int .i64 (seen.getD k 0)
structure Node(L:LM)(w:World)(M:Nat->Prop)(l:Loc)(cs:List AV):Prop where
  lt:l.CP<w.heap.size
  ex:l.kd=0->∃(arr:Array Value) (e:TypeId),w.heap[l.CP]? =some (.cells arr e (0,0))/\l.off+l.cap<=arr.size/\cs.length<=l.cap/\
    ∀k x,cs[k]? =some x->∃u,arr[l.off+k]? =some u/\R L w M x u
  mp:l.kd=1->∃es:Array MapEntry,w.heap[l.CP]? =some (.map es es.size)/\cs.length=es.size/\
    ∀k x,cs[k]? =some x->∃e:MapEntry,es[k]? =some e/\e.born=k/\R L w M x (.agg #[e.key,e.val])
  it:l.kd=2->∃(mb since:Nat) (seen:Array Nat),w.heap[l.CP]? =some (.mapIter (some mb) since seen since)/\cs.length=seen.size+2/\∀k x,cs[k]? =some x->R L w M x (Wf mb since seen k)
  kl:l.kd<=2
theorem Node.trans{L L':LM}{w w':World}{M M':Nat->Prop}{l:Loc}{cs CT:List AV}(n:Node L w M l cs)(hw:w'.heap[l.CP]? =w.heap[l.CP]?)(hl:CT.length=cs.length)
    (hR:∀(k:Nat) (x y:AV),cs[k]? =some x->CT[k]? =some y->∀u,R L w M x u->R L' w' M' y u):Node L' w' M' l CT:=by
  have KG:∀(k:Nat) (y:AV),CT[k]? =some y->∃x,cs[k]? =some x:=λk y hk=>by
    have:=(List.getElem?_eq_some_iff.1 hk).1;exact⟨_,List.getElem?_eq_getElem A0⟩
  refine⟨?_,λh=>?_,λh=>?_,λh=>?_,n.kl⟩
  · have:=n.lt;rw[Array.getElem?_eq_getElem this]at hw;exact(Array.getElem?_eq_some_iff.1 hw).1
  · obtain⟨arr,e,h1,h2,h3,h4⟩:=n.ex h;exact⟨arr,e,hw.trans h1,h2,A0,λk y hk=>by
      obtain⟨x,hx⟩:=KG k y hk;obtain⟨u,h5,h6⟩:=h4 k x hx;exact⟨u,h5,hR k x y hx hk u h6⟩⟩
  · obtain⟨es,h1,h2,h3⟩:=n.mp h;exact⟨es,hw.trans h1,A0,λk y hk=>by
      obtain⟨x,hx⟩:=KG k y hk;obtain⟨e,h4,h5,h6⟩:=h3 k x hx;exact⟨e,h4,h5,hR k x y hx hk _ h6⟩⟩
  obtain⟨mb,since,seen,h1,h2,h3⟩:=n.it h;exact⟨mb,since,seen,hw.trans h1,A0,λk y hk=>by
    obtain⟨x,hx⟩:=KG k y hk;exact hR k x y hx hk _ (h3 k x hx)⟩
theorem Node.mono{L L':LM}{w w':World}{M M':Nat->Prop}{l:Loc}{cs:List AV}(n:Node L w M l cs)(hw:w'.heap[l.CP]? =w.heap[l.CP]?)(hR:∀(k:Nat) (x:AV),cs[k]? =some x->∀u,R L w M x u->R L' w' M' x u):Node L' w' M' l cs:=
  n.trans hw rfl λk x y hx hy u h=>by rw[hx]at hy;cases hy;exact hR k x hx u h
theorem Node.cells{L:LM}{w:World}{M:Nat->Prop}{l:Loc}{cs:List AV}(h0:l.kd=0)(h:∃(arr:Array Value) (e:TypeId),w.heap[l.CP]? =some (.cells arr e (0,0))/\l.off+l.cap<=arr.size/\cs.length<=l.cap/\
    ∀k x,cs[k]? =some x->∃u,arr[l.off+k]? =some u/\R L w M x u):Node L w M l cs:=by
  refine⟨?_,λ_=>h,λh1=>A0,λh1=>A0,A0⟩;obtain⟨arr,e,h1,_⟩:=h;exact(Array.getElem?_eq_some_iff.1 h1).1
structure SR(L:LM)(H:HP)(Av:Nat->Prop)(w:World):Prop where
  node:∀id cs,H id=some cs->∃l,L id=some l/\Node L w (MM L H Av) l cs
  inj:∀id id' cs CT l l',H id=some cs->H id'=some CT->L id=some l->L id'=some l'->l.CP=l'.CP->id=id'
  av:∀id cs l,H id=some cs->L id=some l->¬Av l.CP
  PL:∀b,Av b->b<w.heap.size
def tU:Obj->Prop
  | .loop _| .deferred _=>True
  |_=>False
theorem SR.book{L:LM}{H:HP}{Av:Nat->Prop}{w:World}(s:SR L H Av w){b:Nat}{o:Obj}(h:w.heap[b]? =some o)(ho:tU o):¬LB L H b:=by
  rintro⟨id,cs,l,h1,h2,rfl⟩;obtain⟨l',h3,hn⟩:=s.node id cs h1;rw[h2]at h3;cases h3;have:=hn.kl;have hk:l.kd=0\/l.kd=1\/l.kd=2:=A0;rcases hk with hk|hk|hk
  · obtain⟨arr,e,h4,_⟩:=hn.ex hk;rw[h]at h4;cases h4;exact ho
  · obtain⟨es,h4,_⟩:=hn.mp hk;rw[h]at h4;cases h4;exact ho
  obtain⟨mb,since,seen,h4,_⟩:=hn.it hk;rw[h]at h4;cases h4;exact ho
structure Step(L:LM)(H:HP)(w:World)(L':LM)(H':HP)(w':World):Prop where
  le:∀id l,L id=some l->L' id=some l
  os:w'.os=w.os
  tape:w'.tape=w.tape
  output:w'.output=w.output/\w.drawn<=w'.drawn
  size:w.heap.size<=w'.heap.size
  AJ:∀b,b<w.heap.size->¬LB L H b->w'.heap[b]? =w.heap[b]?
  old:∀b,b<w.heap.size->LB L' H' b->LB L H b
theorem Step.refl(L:LM)(H:HP)(w:World):Step L H w L H w:=
  ⟨λ_ _ h=>h,rfl,rfl,⟨rfl,Nat.le_refl _⟩,Nat.le_refl _,λ_ _ _=>rfl,λ_ _ h=>h⟩
theorem Step.trans{L L' L'':LM}{H H' H'':HP}{w w' w'':World}(a:Step L H w L' H' w')(b:Step L' H' w' L'' H'' w''):Step L H w L'' H'' w'':=
  ⟨λid l h=>b.le _ _ (a.le _ _ h),b.os.trans a.os,b.tape.trans a.tape,⟨b.output.1.trans a.output.1,Nat.le_trans a.output.2 b.output.2⟩,Nat.le_trans a.size b.size,
   λk hk hn=>(b.AJ k (Nat.lt_of_lt_of_le hk a.size) (λh=>hn (a.old k hk h))).trans (a.AJ k hk hn),
   λk hk h=>a.old k hk (b.old k (Nat.lt_of_lt_of_le hk a.size) h)⟩
theorem HD{α:Type}{arr:Array α}{k:Nat}{x:α}(h:arr[k]? =some x):k<arr.size:=by
  rcases Nat.lt_or_ge k arr.size with h'|h'
  · exact h'
  rw[Array.getElem?_eq_none h']at h;cases h
theorem R.mono{L L':LM}{w w':World}{M M':Nat->Prop}(hL:∀id l,L id=some l->L' id=some l)
    (hw:∀b,b<w.heap.size->¬M b->w'.heap[b]? =w.heap[b]?) (hM:∀b,b<w.heap.size->M' b->M b) {x:AV} {u:Value} (h:R L w M x u):R L' w' M' x u:=by
  induction h with
  |j u=>exact .j u
  |i k n=>exact .i k n
  |b x=>exact .b x
  |s x=>exact .s x
  |c x=>exact .c x
  |nl=>exact .nl
  |v0 a cp=>exact .v0 a cp
  | v n cs b off cp arr e f us qM hb hn hu hr ih=>
    have C4:=HD hb;exact .v n cs b off cp arr e f us (λh=>qM (hM b C4 h)) ((hw b C4 qM).trans hb) hn hu ih
  | p o cs b off arr e f us qM hb hu hr ih=>
    have C4:=HD hb;exact .p o cs b off arr e f us (λh=>qM (hM b C4 h)) ((hw b C4 qM).trans hb) hu ih
  |h id o n l a cp hl hn hc ha h0=>exact .h id o n l a cp (hL _ _ hl) hn hc ha h0
  |hs s id o n l a cp hl hn hc ha h0=>exact .hs s id o n l a cp (hL _ _ hl) hn hc ha h0
  |q id o l hl h0=>exact .q id o l (hL _ _ hl) h0
  |m id l hl h0=>exact .m id l (hL _ _ hl) h0
  |it id l hl h0=>exact .it id l (hL _ _ hl) h0
  |g cs us hs hr ih=>exact .g cs us hs ih
  |t vs us hs hr ih=>exact .t vs us hs ih
  |f fn cs us hs hr ih=>exact .f fn cs us hs ih
theorem R.step{L L':LM}{H H':HP}{w w':World}{Av:Nat->Prop}(s:Step L H w L' H' w'){x:AV}{u:Value}(h:R L w (MM L H Av) x u):R L' w' (MM L' H' Av) x u:=
  h.mono s.le (λb hb hn=>s.AJ b hb (λhl=>hn (.inr hl))) (λb hb hm=>hm.imp id (s.old b hb))
def S5{α:Type}(o:Option α)(f:α->Prop):Prop:=∃a,o=some a/\f a
def ex2{α:Type}(p f:α->Prop):Prop:=∃a,p a/\f a
inductive Fl:AV->Prop
  |j:Fl .j
  |i (k:IntKind) (n:Int):Fl (.i k n)
  |b (x:Bool):Fl (.b x)
  |s (x:ByteArray):Fl (.s x)
  |c (x:Value):Fl (.c x)
  |nl:Fl .nl
  |v0:Fl (.v 0 [])
  |h (id o n:Nat):Fl (.h id o n)
  |hs (s id o n:Nat):Fl (.hs s id o n)
  |q (id o:Nat):Fl (.q id o)
  |m (id:Nat):Fl (.m id)
  |it (id:Nat):Fl (.it id)
  |g (cs:List AV) (hr:∀(k:Nat) (x:AV),cs[k]? =some x->Fl x):Fl (.g cs)
  |t (cs:List AV) (hr:∀(k:Nat) (x:AV),cs[k]? =some x->Fl x):Fl (.t cs)
  |f (fn:Nat) (cs:List AV) (hr:∀(k:Nat) (x:AV),cs[k]? =some x->Fl x):Fl (.f fn cs)
theorem R.fl{L L':LM}{w w':World}{M M':Nat->Prop}(hL:∀id l,L id=some l->L' id=some l){x:AV}(hf:Fl x){u:Value}(h:R L w M x u):R L' w' M' x u:=by
  induction h with
  |j u=>exact .j u
  |i k n=>exact .i k n
  |b x=>exact .b x
  |s x=>exact .s x
  |c x=>exact .c x
  |nl=>exact .nl
  |v0 a cp=>exact .v0 a cp
  | v n cs b off cp arr e f us qM hb hn hu hr ih=>
    cases hf;exact .v0 _ _
  |p o cs b off arr e f us qM hb hu hr ih=>cases hf
  |h id o n l a cp hl hn hc ha h0=>exact .h id o n l a cp (hL _ _ hl) hn hc ha h0
  |hs s id o n l a cp hl hn hc ha h0=>exact .hs s id o n l a cp (hL _ _ hl) hn hc ha h0
  |q id o l hl h0=>exact .q id o l (hL _ _ hl) h0
  |m id l hl h0=>exact .m id l (hL _ _ hl) h0
  |it id l hl h0=>exact .it id l (hL _ _ hl) h0
  |g cs us hs hr ih=>cases hf with|g _ hf=>exact .g cs us hs (λk x hx=>ih k x hx (hf k x hx))
  |t vs us hs hr ih=>cases hf with|t _ hf=>exact .t vs us hs (λk x hx=>ih k x hx (hf k x hx))
  |f fn cs us hs hr ih=>cases hf with|f _ _ hf=>exact .f fn cs us hs (λk x hx=>ih k x hx (hf k x hx))
inductive NR:AV->Prop
  |j:NR .j
  |i (k:IntKind) (n:Int):NR (.i k n)
  |b (x:Bool):NR (.b x)
  |s (x:ByteArray):NR (.s x)
  |c (x:Value):NR (.c x)
  |nl:NR .nl
  |v (n:Nat) (cs:List AV) (hr:∀(k:Nat) (x:AV),cs[k]? =some x->NR x):NR (.v n cs)
  |p (n:Nat) (cs:List AV) (hr:∀(k:Nat) (x:AV),cs[k]? =some x->NR x):NR (.p n cs)
  |g (cs:List AV) (hr:∀(k:Nat) (x:AV),cs[k]? =some x->NR x):NR (.g cs)
  |t (cs:List AV) (hr:∀(k:Nat) (x:AV),cs[k]? =some x->NR x):NR (.t cs)
  |f (fn:Nat) (cs:List AV) (hr:∀(k:Nat) (x:AV),cs[k]? =some x->NR x):NR (.f fn cs)
theorem R.nr{L L':LM}{w:World}{M:Nat->Prop}{x:AV}(hf:NR x){u:Value}(h:R L w M x u):R L' w M x u:=by
  induction h with
  |j u=>exact .j u
  |i k n=>exact .i k n
  |b x=>exact .b x
  |s x=>exact .s x
  |c x=>exact .c x
  |nl=>exact .nl
  |v0 a cp=>exact .v0 a cp
  | v n cs b off cp arr e f us qM hb hn hu hr ih=>
    cases hf with|v _ _ hf=>exact .v n cs b off cp arr e f us qM hb hn hu (λk x hx=>ih k x hx (hf k x hx))
  | p o cs b off arr e f us qM hb hu hr ih=>
    cases hf with|p _ _ hf=>exact .p o cs b off arr e f us qM hb hu (λk x hx=>ih k x hx (hf k x hx))
  |h id o n l a cp hl hn hc ha h0=>cases hf
  |hs s id o n l a cp hl hn hc ha h0=>cases hf
  |q id o l hl h0=>cases hf
  |m id l hl h0=>cases hf
  |it id l hl h0=>cases hf
  |g cs us hs hr ih=>cases hf with|g _ hf=>exact .g cs us hs (λk x hx=>ih k x hx (hf k x hx))
  |t vs us hs hr ih=>cases hf with|t _ hf=>exact .t vs us hs (λk x hx=>ih k x hx (hf k x hx))
  |f fn cs us hs hr ih=>cases hf with|f _ _ hf=>exact .f fn cs us hs (λk x hx=>ih k x hx (hf k x hx))
def AT(H:HP)(id:Nat)(d:Option (List AV)):HP:=λid'=>if id'=id then d else H id'
def J2(L:LM)(id:Nat)(l:Loc):LM:=λid'=>if id'=id then some l else L id'
@[simp] theorem A4 (H:HP) (id:Nat) (d:Option (List AV)):AT H id d id=d:=by simp[AT]
theorem A1(H:HP){id id':Nat}(d:Option (List AV))(h:id'≠id):AT H id d id'=H id':=by simp[AT,h]
@[simp] theorem C3 (L:LM) (id:Nat) (l:Loc):J2 L id l id=some l:=by simp[J2]
theorem CK(L:LM){id id':Nat}(l:Loc)(h:id'≠id):J2 L id l id'=L id':=by simp[J2,h]
theorem tV{L:LM}{id:Nat}(h:L id=none)(l:Loc):∀id' l',L id'=some l'->J2 L id l id'=some l':=by
  intro id' l' h';by_cases e:id'=id
  · subst e;rw[h]at h';cases h'
  rw[CK _ _ e];exact h'
def YK(B:Nat):List Deferred->World->Prop
  |[],_=>True
  |d::ds,w=>(∃D,d={target:= .collected D,args:=#[]}/\w.heap[D]? =some (.deferred (some []))/\B<=D/\∀E,({target:= .collected E,args:=#[]}:Deferred)∈ds->E≠D)/\YK B ds w
theorem YK.of{B:Nat}{w w':World}:∀{ds:List Deferred},YK B ds w->(∀D,({target:= .collected D,args:=#[]}:Deferred)∈ds->w.heap[D]? =some (.deferred (some []))->w'.heap[D]? =w.heap[D]?)->YK B ds w':=by
  intro ds;induction ds with
  |nil=>intro _ _;exact trivial
  | cons d ds ih=>
    rintro⟨⟨D,rfl,h2,h3,h4⟩,h5⟩ h;exact⟨⟨D,rfl,(h D AB h2).trans h2,h3,h4⟩,ih h5 λE hE=>h E (List.mem_cons_of_mem _ hE)⟩
theorem YK.step{B:Nat}{L L':LM}{H H':HP}{Av:Nat->Prop}{w w':World}{ds:List Deferred}(h:YK B ds w)(s:SR L H Av w)(st:Step L H w L' H' w'):YK B ds w':=
  h.of λD _ h2=>st.AJ D (HD h2) (s.book h2 trivial)
theorem YK.same{B:Nat}{w w':World}{ds:List Deferred}(h:YK B ds w)(hw:w'.heap=w.heap):YK B ds w':=h.of λD _ _=>by rw[hw]
theorem R.LW{L:LM}{w:World}{M:Nat->Prop}{b:Nat}{o:Obj}(hb:w.heap[b]? =some o)(ho:tU o)(o':Obj){x:AV}{u:Value}(h:R L w M x u):R L (w.putObj b o') M x u:=by
  have key:∀{k:Nat} {arr:Array Value} {e:TypeId} {f:Nat×Nat},w.heap[k]? =some (.cells arr e f)->(w.putObj b o').heap[k]? =some (.cells arr e f):=by
    intro k arr e f h;refine(World.putObj_heap_other ?_).trans h;rintro rfl;rw[hb]at h;cases h;exact ho
  induction h with
  |j u=>exact .j u
  |i k n=>exact .i k n
  |b x=>exact .b x
  |s x=>exact .s x
  |c x=>exact .c x
  |nl=>exact .nl
  |v0 a cp=>exact .v0 a cp
  |v n cs b off cp arr e f us qM hb hn hu hr ih=>exact .v n cs b off cp arr e f us qM (key hb) hn hu ih
  |p o cs b off arr e f us qM hb hu hr ih=>exact .p o cs b off arr e f us qM (key hb) hu ih
  |h id o n l a cp hl hn hc ha h0=>exact .h id o n l a cp hl hn hc ha h0
  |hs s id o n l a cp hl hn hc ha h0=>exact .hs s id o n l a cp hl hn hc ha h0
  |q id o l hl h0=>exact .q id o l hl h0
  |m id l hl h0=>exact .m id l hl h0
  |it id l hl h0=>exact .it id l hl h0
  |g cs us hs hr ih=>exact .g cs us hs ih
  |t vs us hs hr ih=>exact .t vs us hs ih
  |f fn cs us hs hr ih=>exact .f fn cs us hs ih
theorem SR.LW{L:LM}{H:HP}{Av:Nat->Prop}{w:World}(s:SR L H Av w){b:Nat}{o:Obj}(hb:w.heap[b]? =some o)(ho:tU o)(o':Obj):SR L H Av (w.putObj b o'):=by
  refine⟨?_,s.inj,s.av,λk hk=>by rw[World.putObj_size];exact s.PL k hk⟩;intro id cs h;obtain⟨l,h1,hn⟩:=s.node id cs h;refine⟨l,h1,hn.mono (World.putObj_heap_other ?_) λk x _ u hr=>hr.LW hb ho o'⟩;intro e;exact s.book hb ho ⟨id,cs,l,h,h1,e⟩
theorem Step.LW{L L':LM}{H H':HP}{w w':World}(st:Step L H w L' H' w'){b:Nat}(hb:w.heap.size<=b)(o':Obj):Step L H w L' H' (w'.putObj b o'):=
  ⟨st.le,st.os,st.tape,st.output,by rw[World.putObj_size];exact st.size,λk hk hl=>(World.putObj_heap_other A0).trans (st.AJ k hk hl),st.old⟩
end Go.Proofs.YtgknbnkmilddhaaGreat

namespace Go.Proofs.YtgknbnkmilddhaaGreat
inductive TD where
  |bool
  |int (k:IntKind)
  |str
  |slice (el:TypeId)
  |struct (fs:List (TypeId×Nat))
  |array (n:Nat) (el:TypeId)
  |map (k el:TypeId)
  |other
def RE:TypeDesc->TD
  | .bool=> .bool
  | .int k=> .int k
  | .string=> .str
  | .slice el=> .slice el
  | .struct fs=> .struct (fs.toList.map λf=>(f.type,f.offset))
  | .array n el=> .array n el
  | .map k el=> .map k el
  |_=> .other
structure TE where
  d:TD
  size:Nat
  bytes:Nat
  zero:Value
  eq4:Bool
def Wg(P:Program)(ty:TypeId):Bool:=
  !P.stoodInHeld ty && !P.eqGuardType P.depth ty && match P.underlying ty with
  | some (.struct fs)=>match fs.toList with
    |[a,b,c,d]=>[(a,0),(b,1),(c,2),(d,3)].all λ(f,o)=>f.name != "_" && f.offset==o &&(match P.underlying f.type with|some (.int .i64)=>true|_=>false)
    |_=>false
  |_=>false
def TE.agg(x:TE):Bool:=match x.d with| .struct _=>true| .array _ _=>true|_=>false
structure E6(P:Program)(ty:TypeId)(x:TE):Prop where
  und:(P.underlying ty).map RE=some x.d
  inf:(P.info? ty).map (λi=>(i.size,i.bytes,i.zero))=some (x.size,x.bytes,some x.zero)
  eq4:x.eq4=true->Wg P ty=true
theorem E6.info{P:Program}{ty:TypeId}{x:TE}(h:E6 P ty x):∃i,P.info? ty=some i/\i.size=x.size/\i.bytes=x.bytes/\i.zero=some x.zero:=by
  have:=h.inf;cases hi:P.info? ty with
  |none=>rw[hi]at this;cases this
  | some i=>
    rw[hi]at this;simp only[Option.map_some,Option.some.injEq,Prod.mk.injEq]at this;exact⟨i,rfl,this.1,this.2.1,this.2.2⟩
theorem E6.D1{P:Program}{ty:TypeId}{x:TE}(h:E6 P ty x):∃d,RE d=x.d/\P.underlying ty=some d/\∀w,(underlying ty).run P w= .ok d w:=by
  have:=h.und;cases hd:P.underlying ty with
  |none=>rw[hd]at this;cases this
  | some d=>
    rw[hd]at this;exact⟨d,by simpa using this,rfl,λw=>by simp[go_sem,underlying,hd]⟩
theorem Mh{d:TypeDesc}(h:RE d= .bool):d= .bool:=by cases d<;>simp[RE]at h;rfl
theorem PM{d:TypeDesc}(h:RE d= .str):d= .string:=by cases d<;>simp[RE]at h;rfl
theorem jC{d:TypeDesc}{k:IntKind}(h:RE d= .int k):d= .int k:=by cases d<;>simp[RE]at h;rw[h]
theorem J3{d:TypeDesc}{el:TypeId}(h:RE d= .slice el):d= .slice el:=by cases d<;>simp[RE]at h;rw[h]
theorem y7{d:TypeDesc}{l:List (TypeId×Nat)}(h:RE d= .struct l):∃fs,d= .struct fs/\fs.toList.map (λf=>(f.type,f.offset))=l:=by
  cases d<;>simp[RE]at h
  exact⟨_,rfl,h⟩
theorem Wh{d:TypeDesc}{k el:TypeId}(h:RE d= .map k el):d= .map k el:=by cases d<;>simp[RE]at h;rw[h.1,h.2]
theorem E6.map{P:Program}{ty k el:TypeId}{x:TE}(h:E6 P ty x)(hd:x.d= .map k el):∀w,(underlying ty).run P w= .ok (.map k el) w:=by
  obtain⟨d,h1,h2,h3⟩:=h.D1;have:=Wh (h1.trans hd);subst this;exact h3
theorem E6.slice{P:Program}{ty el:TypeId}{x:TE}(h:E6 P ty x)(hd:x.d= .slice el):P.underlying ty=some (.slice el)/\∀w,(underlying ty).run P w= .ok (.slice el) w:=by
  obtain⟨d,h1,h2,h3⟩:=h.D1;have:=J3 (h1.trans hd);subst this;exact⟨h2,h3⟩
theorem E6.struct{P:Program}{ty:TypeId}{l:List (TypeId×Nat)}{x:TE}(h:E6 P ty x)(hd:x.d= .struct l):∃fs:Array Field,fs.toList.map (λf=>(f.type,f.offset))=l/\∀w,(underlying ty).run P w= .ok (.struct fs) w:=by
  obtain⟨d,h1,h2,h3⟩:=h.D1;obtain⟨fs,rfl,h4⟩:=y7 (h1.trans hd);exact⟨fs,h4,h3⟩
theorem E6.GK{P:Program}{ty:TypeId}{x:TE}(h:E6 P ty x)(w:World):∃i,(typeInfo ty).run P w= .ok i w/\i.size=x.size/\i.bytes=x.bytes/\i.zero=some x.zero:=by
  obtain⟨i,h1,h2⟩:=h.info;exact⟨i,by simp[go_sem,typeInfo,h1],h2⟩
theorem E6.CW{P:Program}{ty:TypeId}{x:TE}(h:E6 P ty x)(w:World):(sizeOf ty).run P w= .ok x.size w:=by
  obtain⟨i,h1,h2,h3⟩:=h.GK w;simp[go_sem,sizeOf,h1,h2]
theorem E6.GM{P:Program}{ty:TypeId}{x:TE}(h:E6 P ty x)(w:World):(zeroValue ty).run P w= .ok x.zero w:=by
  obtain⟨i,h1,h2,h3,h4⟩:=h.GK w;simp[go_sem,zeroValue,h1,h4]
theorem E6.jD{P:Program}{ty:TypeId}{x:TE}(h:E6 P ty x)(w:World):(isAgg ty).run P w= .ok x.agg w:=by
  obtain⟨d,h1,h2,h3⟩:=h.D1;unfold isAgg TE.agg;simp only[Sem.run_bind,h3 w,Result.andThen];rw[<-h1];cases d<;>simp[go_sem,RE]
theorem S6(w:World)(o:Obj){b:Nat}(h:b<w.heap.size):(w.alloc o).heap[b]? =w.heap[b]? :=by
  show(w.heap.push o)[b]? =_
  rw[Array.getElem?_push,if_neg A0]
theorem heap_alloc_new(w:World)(o:Obj):(w.alloc o).heap[w.heap.size]? =some o:=by
  show(w.heap.push o)[w.heap.size]? =_
  simp
theorem Step.mQ{L L':LM}{H H':HP}{w:World}(o:Obj)(hL:∀id l,L id=some l->L' id=some l)(hold:∀b,b<w.heap.size->LB L' H' b->LB L H b):Step L H w L' H' (w.alloc o):=
  ⟨hL,rfl,rfl,⟨rfl,Nat.le_refl _⟩,AB,λb hb _=>S6 w o hb,hold⟩
theorem LX{L:LM}{H:HP}{Av:Nat->Prop}{w:World}(s:SR L H Av w){b:Nat}(h:LB L H b):b<w.heap.size:=by
  obtain⟨id,cs,l,h1,h2,h3⟩:=h;obtain⟨l',h4,hn⟩:=s.node id cs h1;rw[h2]at h4;cases h4;exact h3▸hn.lt
theorem PN{L:LM}{H:HP}{Av:Nat->Prop}{w:World}(s:SR L H Av w){id:Nat}(hL:L id=none)(hH:H id=none)(o:Obj)(m:Loc)(hm:m.CP=w.heap.size)(cs:List AV)
    (hn:(∀{x:AV} {u:Value},R L w (MM L H Av) x u->R (J2 L id m) (w.alloc o) (MM (J2 L id m) (AT H id (some cs)) Av) x u)->Node (J2 L id m) (w.alloc o) (MM (J2 L id m) (AT H id (some cs)) Av) m cs):
    SR (J2 L id m) (AT H id (some cs)) Av (w.alloc o)/\Step L H w (J2 L id m) (AT H id (some cs)) (w.alloc o):=by
  have ER:Step L H w (J2 L id m) (AT H id (some cs)) (w.alloc o):=by
    refine Step.mQ _ (tV hL _) ?_;rintro b hb ⟨id',CT,l',h1,h2,h3⟩;by_cases DS:id'=id
    · subst DS;rw[C3]at h2;cases h2;omega
    rw[A1 _ _ DS]at h1;rw[CK _ _ DS]at h2;exact⟨id',CT,l',h1,h2,h3⟩
  refine⟨⟨?_,?_,?_,?_⟩,ER⟩
  · intro id' CT h;by_cases DS:id'=id
    · subst DS;rw[A4]at h;cases h;exact⟨_,C3 _ _ _,hn λh=>h.step ER⟩
    rw[A1 _ _ DS]at h;obtain⟨l,h1,D0⟩:=s.node id' CT h;exact⟨l,by rw[CK _ _ DS];exact h1,D0.mono (S6 _ _ D0.lt) λk x hk u h7=>h7.step ER⟩
  · intro i i' c c' l l' h1 h2 h3 h4 h5;by_cases hi:i=id<;>by_cases HM:i'=id
    · omega
    · subst hi;rw[C3]at h3;cases h3;rw[A1 _ _ HM]at h2;rw[CK _ _ HM]at h4;have:=LX s ⟨i',c',l',h2,h4,rfl⟩;omega
    · subst HM;rw[C3]at h4;cases h4;rw[A1 _ _ hi]at h1;rw[CK _ _ hi]at h3;have:=LX s ⟨i,c,l,h1,h3,rfl⟩;omega
    rw[A1 _ _ hi]at h1;rw[CK _ _ hi]at h3;rw[A1 _ _ HM]at h2;rw[CK _ _ HM]at h4;exact s.inj i i' c c' l l' h1 h2 h3 h4 h5
  · intro i c l h1 h2;by_cases hi:i=id
    · subst hi;rw[C3]at h2;cases h2;intro h;have:=s.PL _ h;omega
    rw[A1 _ _ hi]at h1;rw[CK _ _ hi]at h2;exact s.av i c l h1 h2
  intro b hb;have:=s.PL b hb;simp;omega
theorem KK{L:LM}{H:HP}{Av:Nat->Prop}{w:World}(s:SR L H Av w){id:Nat}(hL:L id=none)(hH:H id=none)(arr:Array Value)(e:TypeId)(cp:Nat)(cs:List AV)
    (YL:cp<=arr.size) (hlen:cs.length<=cp) (P6:∀(k:Nat) (x:AV),cs[k]? =some x->∃u,arr[k]? =some u/\R L w (MM L H Av) x u):
    SR (J2 L id ⟨w.heap.size,0,cp,0⟩) (AT H id (some cs)) Av (w.alloc (.cells arr e (0,0)))/\Step L H w (J2 L id ⟨w.heap.size,0,cp,0⟩) (AT H id (some cs)) (w.alloc (.cells arr e (0,0))):=by
  refine PN s hL hH _ _ rfl cs λhR=>Node.cells rfl ⟨arr,e,heap_alloc_new _ _,by simpa using YL,hlen,?_⟩
  intro k x hk;obtain⟨u,h1,h2⟩:=P6 k x hk;exact⟨u,by simpa using h1,hR h2⟩
def CM(w:World)(b:Nat)(o:Obj):World:={w with heap:=w.heap.setIfInBounds b o}
theorem HE(w:World)(b:Nat)(o:Obj):(CM w b o).heap.size=w.heap.size:=by simp[CM]
theorem W8(w:World){b b':Nat}(o:Obj)(h:b'≠b):(CM w b o).heap[b']? =w.heap[b']? :=by
  simp only[CM];rw[Array.getElem?_setIfInBounds_ne A0]
theorem PO(w:World){b:Nat}(o:Obj)(h:b<w.heap.size):(CM w b o).heap[b]? =some o:=by
  simp only[CM];rw[Array.getElem?_setIfInBounds_self_of_lt h]
theorem T1{L:LM}{H:HP}{Av:Nat->Prop}{w:World}(s:SR L H Av w){id id':Nat}{cs:List AV}{l l':Loc}(hH:H id=some cs)(hl:L id=some l)(DS:(id'=id/\l'=l)\/(L id'=none/\H id'=none))
    (La:l'.CP=l.CP) (o:Obj) (CT:List AV)
    (hn:(∀{x:AV} {u:Value},R L w (MM L H Av) x u->R (J2 L id' l') (CM w l.CP o) (MM (J2 L id' l') (AT (AT H id none) id' (some CT)) Av) x u)->Node (J2 L id' l') (CM w l.CP o) (MM (J2 L id' l') (AT (AT H id none) id' (some CT)) Av) l' CT):
    SR (J2 L id' l') (AT (AT H id none) id' (some CT)) Av (CM w l.CP o)/\Step L H w (J2 L id' l') (AT (AT H id none) id' (some CT)) (CM w l.CP o):=by
  have hle:∀i m,L i=some m->J2 L id' l' i=some m:=by
    rcases DS with ⟨rfl,rfl⟩|⟨h,_⟩
    · intro i m hm;by_cases hi:i=id'
      · subst hi;rw[C3,<-hm,hl]
      rw[CK _ _ hi];exact hm
    exact tV h _
  have W9:LB L H l.CP:=⟨id,cs,l,hH,hl,rfl⟩;have C4:=LX s W9;have bC:∀i c,i≠id'->AT (AT H id none) id' (some CT) i=some c->i≠id/\H i=some c:=by
    intro i c hi h;rw[A1 _ _ hi]at h;by_cases Ai:i=id
    · subst Ai;rw[A4]at h;cases h
    rw[A1 _ _ Ai]at h;exact⟨Ai,h⟩
  have ER:Step L H w (J2 L id' l') (AT (AT H id none) id' (some CT)) (CM w l.CP o):=by
    refine⟨hle,rfl,rfl,⟨rfl,Nat.le_refl _⟩,by rw[HE];exact Nat.le_refl _,?_,?_⟩
    · intro b hb hn;exact W8 _ _ (λh=>hn (h▸W9))
    rintro b hb ⟨i,c,m,h1,h2,h3⟩;by_cases hi:i=id'
    · subst hi;rw[C3]at h2;cases h2;rw[<-h3,La];exact W9
    rw[CK _ _ hi]at h2;exact⟨i,c,m,(bC i c hi h1).2,h2,h3⟩
  refine⟨⟨?_,?_,?_,?_⟩,ER⟩
  · intro i c h;by_cases hi:i=id'
    · subst hi;rw[A4]at h;cases h;exact⟨_,C3 _ _ _,hn λh=>h.step ER⟩
    obtain⟨Ai,hh⟩:=bC i c hi h;obtain⟨m,h1,D0⟩:=s.node i c hh;have AQ:m.CP≠l.CP:=λhe=>Ai (s.inj i id c cs m l hh hH h1 hl he)
    exact⟨m,by rw[CK _ _ hi];exact h1,D0.mono (W8 _ _ AQ) λk x hk u h7=>h7.step ER⟩
  · intro i i' c c' m m' h1 h2 h3 h4 h5;by_cases hi:i=id'<;>by_cases HM:i'=id'
    · omega
    · subst hi;rw[C3]at h3;cases h3;obtain⟨Ai,hh⟩:=bC i' c' HM h2;rw[CK _ _ HM]at h4;exact absurd (s.inj i' id c' cs m' l hh hH h4 hl (by rw[<-h5,La])) Ai
    · subst HM;rw[C3]at h4;cases h4;obtain⟨Ai,hh⟩:=bC i c hi h1;rw[CK _ _ hi]at h3;exact absurd (s.inj i id c cs m l hh hH h3 hl (by rw[h5,La])) Ai
    obtain⟨_,hh⟩:=bC i c hi h1;obtain⟨_,hh'⟩:=bC i' c' HM h2;rw[CK _ _ hi]at h3;rw[CK _ _ HM]at h4;exact s.inj i i' c c' m m' hh hh' h3 h4 h5
  · intro i c m h1 h2;by_cases hi:i=id'
    · subst hi;rw[C3]at h2;cases h2;rw[La];exact s.av id cs l hH hl
    obtain⟨_,hh⟩:=bC i c hi h1;rw[CK _ _ hi]at h2;exact s.av i c m hh h2
  intro b hb;rw[HE];exact s.PL b hb
theorem MX{L:LM}{H:HP}{Av:Nat->Prop}{w:World}(s:SR L H Av w){id id':Nat}{cs:List AV}{l l':Loc}(hH:H id=some cs)(hl:L id=some l)(DS:(id'=id/\l'=l)\/(L id'=none/\H id'=none))
    (La:l'.CP=l.CP) (KH:l'.kd=0) (arr:Array Value) (e:TypeId) (CT:List AV) (A3S:l'.off+l'.cap<=arr.size) (hlen:CT.length<=l'.cap)
    (P6:∀(k:Nat) (x:AV),CT[k]? =some x->∃u,arr[l'.off+k]? =some u/\R L w (MM L H Av) x u):
    SR (J2 L id' l') (AT (AT H id none) id' (some CT)) Av (CM w l.CP (.cells arr e (0,0)))/\Step L H w (J2 L id' l') (AT (AT H id none) id' (some CT)) (CM w l.CP (.cells arr e (0,0))):=by
  refine T1 s hH hl DS La _ CT λhR=>Node.cells KH ⟨arr,e,by rw[La];exact PO _ _ (LX s ⟨id,cs,l,hH,hl,rfl⟩),A3S,hlen,?_⟩
  intro k x hk;obtain⟨u,h1,h2⟩:=P6 k x hk;exact⟨u,h1,hR h2⟩
end Go.Proofs.YtgknbnkmilddhaaGreat

namespace Go.Proofs.YtgknbnkmilddhaaGreat
theorem U5(L:LM){id:Nat}{l:Loc}(h:L id=some l):J2 L id l=L:=by
  funext i;unfold J2;split
  · rename_i hi;rw[hi,h]
  rfl
theorem LY(H:HP)(id:Nat)(a b:Option (List AV)):AT (AT H id a) id b=AT H id b:=by
  funext i;unfold AT;split<;>rfl
def QV(P:Program)(o:Oper)(ρ:Operand->Value)(w:World)(post:Value->World->Prop):Prop:=
  match (execOp ρ o).run P w with
  | .ok (.value u) w'=>post u w'
  | .ok .skip w'=>post undef w'
  | .ok (.enter f args) w'=>Calls P f args w' λe w''=>∃u,e= .returned u/\post u w''
  |_=>False
def fw(rd:Option Nat):Fence:={Fence.wide with round:=rd}
theorem Bh{rd:Option Nat}{n:Nat}{P:Program}{f:FuncId}{args:Array Value}{w:World}{R:Ending->World->Prop}(h:Calls P f args w R):CallsIn (fw rd) n P f args w R:=by
  have h1:=(callsIn_wide (n:=n)).2 h;cases rd with
  |none=>exact h1
  |some l=>exact h1.inRound l
def Bi(rd:Option Nat)(P:Program)(o:Oper)(a:Act)(w:World)(K:Act->World->Prop)(Q:Exit->Act->World->Prop):Prop:=o.wpIn (fw rd) 0 P a w K Q
def Wi(rd:Option Nat)(P:Program)(ops:Array Oper)(Q:Exit->Act->World->Prop):List Oper->Act->World->Prop
  |[],a,w=>Q .normal a w
  |o::rest,a,w=>if Region.wanted o (yielded ops a.tmps)then Bi rd P o a w (Wi rd P ops Q rest) Q\/False else Wi rd P ops Q rest (a.put o.dst undef) w
def wpO(rd:Option Nat)(P:Program)(ops:Array Oper)(Q:Exit->Act->World->Prop)(i:Nat)(K:Act->World->Prop)(a:Act)(w:World):Prop:=
  match ops[i]? with
  |none=>K a w
  |some o=>if Region.wanted o (yielded ops a.tmps)then Bi rd P o a w K Q\/False else K (a.put o.dst undef) w
def Lb(rd:Option Nat)(P:Program)(md:Region.Mode)(ops:Array Oper)(Q:Exit->Act->World->Prop):Nat->Array Bool->Act->World->Prop
  |0,AE,a,w=>Region.ready md ops AE=[]/\Q .normal a w
  | fuel+1,AE,a,w=>
    (Region.ready md ops AE=[]->Q .normal a w)/\
    ∀i∈Region.ready md ops AE,wpO rd P ops Q i (Lb rd P md ops Q fuel (AE.setIfInBounds i true)) a w
theorem Wj{rd:Option Nat}{P:Program}{ops:Array Oper}{Q:Exit->Act->World->Prop}:∀(l:List Oper) (a:Act) (w:World),Wi rd P ops Q l a w->wpListIn (fw rd) 0 P ops Q l a w:=by
  intro l;induction l with
  |nil=>intro a w h;exact h
  | cons o l ih=>
    intro a w h;unfold Wi at h;unfold wpListIn;split at h
    · rename_i hw;rw[if_pos hw];exact Oper.wpIn_mono ih (h.resolve_right id)
    rename_i hw;rw[if_neg hw];exact⟨λ_ _=>trivial,ih _ _ h⟩
theorem qN{rd:Option Nat}{P:Program}{id:Nat}{ops:Array Oper}{Q:Exit->Act->World->Prop}{a:Act}{w:World}(h:Wi rd P ops Q ops.toList a w):(Code.region id ops false).wpIn (fw rd) 0 P Q a w:=
  wpIn_region_list (Wj _ _ _ h)
theorem Wl{rd:Option Nat}{P:Program}{md:Region.Mode}{ops:Array Oper}{Q:Exit->Act->World->Prop}:∀(fuel:Nat) (AE:Array Bool) (a:Act) (w:World),Lb rd P md ops Q fuel AE a w->wpAnyIn (fw rd) 0 P md ops Q fuel AE a w:=by
  intro fuel;induction fuel with
  |zero=>intro AE a w h;exact h
  | succ fuel ih=>
    intro AE a w h;refine⟨h.1,λi hi=>?_⟩;have h1:=h.2 i hi;unfold wpO at h1;unfold wpOpIn;cases ho:ops[i]? with
    |none=>rw[ho]at h1;exact ih _ _ _ h1
    | some o=>
      rw[ho]at h1;simp only at h1 ⊢
      split at h1
      · rename_i hw;rw[if_pos hw];exact Oper.wpIn_mono (ih _) (h1.resolve_right id)
      rename_i hw;rw[if_neg hw];exact⟨λ_ _=>trivial,ih _ _ _ h1⟩
theorem T2{rd:Option Nat}{P:Program}{id:Nat}{ops:Array Oper}{Q:Exit->Act->World->Prop}{a:Act}{w:World}(hm:P.follows .mixedOrders=true)
    (h:Lb rd P .any ops Q ops.size (Array.replicate ops.size false) a {w with drawn:=w.drawn+1}):(Code.region id ops true).wpIn (fw rd) 0 P Q a w:=
  wpIn_region_any hm (Wl _ _ _ _ h)
theorem QV.wp{rd:Option Nat}{P:Program}{o:Oper}{a:Act}{w:World}{post:Value->World->Prop}{K:Act->World->Prop}{Q:Exit->Act->World->Prop}(h:QV P o a.eval w post)
    (hk:∀u w',post u w'->K (a.put o.dst u) w'):Bi rd P o a w K Q:=by
  refine⟨λ_ _=>trivial,?_⟩;have A9T:o.semAt (fw rd).round a.eval=execOp a.eval o:=by
    cases rd with
    |none=>rfl
    | some l=>
      refine Oper.semAt_some l _ _ λc hc=>?_
      unfold QV at h;simp only[execOp,hc,Sem.run_bind]at h;generalize (resolve a.eval c o.type).run P w=r at h
      cases r with
      |halt x w'=>exact h
      |ok d w'=>simp[Result.andThen]at h
  rw[A9T];unfold QV at h;generalize (execOp a.eval o).run P w=r at h
  cases r with
  |halt x w'=>exact h.elim
  | ok n w'=>
    cases n<;>try exact h.elim
    · exact hk _ _ h
    · exact hk _ _ h
    refine⟨λhd=>(by cases hd),Bh (Calls.mono h ?_)⟩;intro e w'' he;obtain⟨u,he,hp⟩:=he;subst he;exact hk _ _ hp
theorem QV.CX{P:Program}{o:Oper}{ρ:Operand->Value}{w w':World}{post:Value->World->Prop}{u:Value}(h:(execOp ρ o).run P w= .ok (.value u) w')(hp:post u w'):QV P o ρ w post:=by
  unfold QV;rw[h];exact hp
theorem QV.tW{P:Program}{o:Oper}{ρ:Operand->Value}{w w':World}{post:Value->World->Prop}(h:(execOp ρ o).run P w= .ok .skip w')(hp:post undef w'):QV P o ρ w post:=by
  unfold QV;rw[h];exact hp
def fT(P:Program)(o:Oper)(ev:Operand->AV)(H:HP)(id:Nat)(k:AV->HP->Prop):Prop:=
  ∀ (L:LM) (Av:Nat->Prop) (w:World) (ρ:Operand->Value),SR L H Av w->(∃n,∀i,n<=i->L i=none)->L id=none->H id=none->(∀x∈o.op.operands,R L w (MM L H Av) (ev x) (ρ x))->
    QV P o ρ w λu w'=>∃r H' L',k r H'/\(∀i,i≠id->L' i=L i)/\SR L' H' Av w'/\Step L H w L' H' w'/\R L' w' (MM L' H' Av) r u
def HN(H:HP)(id:Nat):Option (List AV)->HP
  |none=>H
  |some cs=>AT H id (some cs)
def EZ(P:Program)(o:Oper)(ev:Operand->AV)(H:HP)(id:Nat)(r:AV)(d:Option (List AV)):Prop:=
  ∀H',(∀i c,H i=some c->H' i=some c)->fT P o ev H' id λr' H''=>r'=r/\H''=HN H' id d
theorem EZ.pure{P:Program}{o:Oper}{ev:Operand->AV}{H:HP}{id:Nat}{r:AV}
    (h:∀(H':HP),(∀i c,H i=some c->H' i=some c)->∀(L:LM) (Av:Nat->Prop) (w:World) (ρ:Operand->Value),SR L H' Av w->(∀x∈o.op.operands,R L w (MM L H' Av) (ev x) (ρ x))->
      ∃u,(execOp ρ o).run P w= .ok (.value u) w/\R L w (MM L H' Av) r u):EZ P o ev H id r none:=by
  intro H' hH L Av w ρ hs mC hL hi hr;obtain⟨u,h1,h2⟩:=h H' hH L Av w ρ hs hr;exact .CX h1 ⟨r,H',L,⟨rfl,rfl⟩,λ_ _=>rfl,hs,Step.refl _ _ _,h2⟩
theorem EZ.new{P:Program}{o:Oper}{ev:Operand->AV}{H:HP}{id:Nat}{r:AV}{cs:List AV}
    (h:∀(H':HP),(∀i c,H i=some c->H' i=some c)->∀(L:LM) (Av:Nat->Prop) (w:World) (ρ:Operand->Value),SR L H' Av w->(∀x∈o.op.operands,R L w (MM L H' Av) (ev x) (ρ x))->
      ∃ u arr e cp,(execOp ρ o).run P w= .ok (.value u) (w.alloc (.cells arr e (0,0)))/\cp<=arr.size/\cs.length<=cp/\(∀(k:Nat) (x:AV),cs[k]? =some x->∃u,arr[k]? =some u/\R L w (MM L H' Av) x u)/\
        ∀L' w' M',L' id=some ⟨w.heap.size,0,cp,0⟩->R L' w' M' r u):EZ P o ev H id r (some cs):=by
  intro H' hH L Av w ρ hs mC hL hi hr;obtain⟨u,arr,e,cp,h1,h2,h3,h4,h5⟩:=h H' hH L Av w ρ hs hr;obtain⟨h6,h7⟩:=KK hs hL hi arr e cp cs h2 h3 h4;exact .CX h1 ⟨r,_,_,⟨rfl,rfl⟩,λi hi=>CK _ _ hi,h6,h7,h5 _ _ _ (C3 _ _ _)⟩
def F6:Value->AV
  | .int k n=> .i k n
  | .bool b=> .b b
  | .string s=> .s s
  | .slice none 0 0=> .nl
  |x=> .c x
def YM:Value->AV
  | .agg cs=> .g (cs.toList.map F6)
  |x=>F6 x
theorem R.F6(L:LM)(w:World)(M:Nat->Prop)(x:Value):R L w M (F6 x) x:=by
  unfold Go.Proofs.YtgknbnkmilddhaaGreat.F6;split<;>constructor
theorem R.YM(L:LM)(w:World)(M:Nat->Prop)(x:Value):R L w M (YM x) x:=by
  unfold Go.Proofs.YtgknbnkmilddhaaGreat.YM;split
  · rename_i cs;refine .g _ _ AB ?_;intro k x hk;simp only[List.getElem?_map,Option.map_eq_some_iff,Array.getElem?_toList]at hk;obtain⟨u,h1,h2⟩:=hk;rw[<-h2];simp[h1,R.F6]
  exact R.F6 _ _ _ _
def Wm(c:Bool)(a b:Prop):Prop:=match c with
  |true=>a
  |false=>b
theorem Ua{n:Nat}{a b:Prop}(h:n=1):Wm (n==1) a b=a:=by subst h;rfl
theorem Ub{n:Nat}{a b:Prop}(h:¬n=1):Wm (n==1) a b=b:=by
  have:(n==1)=false:=by simp[h]
  rw[this];rfl
structure St where
  t:List AV
  H:HP
  nx:Nat
def BQ(t:List AV):Operand->AV
  | .tmp n=>t.getD n .j
  | .const x=>YM x
  | .global g=> .c (.pointer (some ⟨g,0,none⟩))
  | .func f=> .f f []
end Go.Proofs.YtgknbnkmilddhaaGreat
