import Derived.WalkKit
import Derived.WalkSpells
import Derived.Orders
import Derived.TacticsIn
import Derived.OrdersIn
import Derived.RangeFuncCalls
import Derived.RangeFuncRecord
set_option linter.unusedVariables false
set_option linter.unusedSimpArgs false
namespace Go.Proofs.YtghmeeifjeafmaaGreat
inductive AV where
  |j
  |i (k:IntKind) (n:Int)
  |b (x:Bool)
  |s (x:ByteArray)
  |c (x:Value)
  |nl
  |v (n:Nat) (cs:List AV)
  |p (o:Nat) (cs:List AV)
  |h (id o n:Nat)
  |hs (s id o n:Nat)
  |q (id o:Nat)
  |g (cs:List AV)
  |t (vs:List AV)
  |f (fn:Nat) (cs:List AV)
  |m (id:Nat)
  |it (id:Nat)
structure Loc where
  D1:Nat
  off:Nat
  cap:Nat
  kd:Nat
abbrev LM:=Nat→Option Loc
abbrev HP:=Nat→Option (List AV)
def LB(L:LM)(H:HP)(b:Nat):Prop:=∃id cs l,H id=some cs∧L id=some l∧l.D1=b
def MM(L:LM)(H:HP)(Av:Nat→Prop)(b:Nat):Prop:=Av b∨LB L H b
inductive R (L:LM) (w:World) (M:Nat→Prop):AV→Value→Prop
  |j (u:Value):R L w M .j u
  |i (k:IntKind) (n:Int):R L w M (.i k n) (.int k n)
  |b (x:Bool):R L w M (.b x) (.bool x)
  |s (x:ByteArray):R L w M (.s x) (.string x)
  |c (x:Value):R L w M (.c x) x
  |nl:R L w M .nl (.slice none 0 0)
  |v0 (a:Option Addr) (cp:Nat):R L w M (.v 0 []) (.slice a 0 cp)
  | v (n:Nat) (cs:List AV) (b off cp:Nat) (arr:Array Value) (e:TypeId) (f:Nat×Nat) (us:Nat→Value) (hM:¬M b) (hb:w.heap[b]? =some (.cells arr e f))
      (hn:n≤cp) (hu:∀k,k<cs.length→arr[off+k]? =some (us k)) (hr:∀k x,cs[k]? =some x→R L w M x (us k)):R L w M (.v n cs) (.slice (some ⟨b,off,none⟩) n cp)
  | p (o:Nat) (cs:List AV) (b off:Nat) (arr:Array Value) (e:TypeId) (f:Nat×Nat) (us:Nat→Value) (hM:¬M b) (hb:w.heap[b]? =some (.cells arr e f))
      (hu:∀k,k<cs.length→arr[off+k]? =some (us k)) (hr:∀k x,cs[k]? =some x→R L w M x (us k)):R L w M (.p o cs) (.pointer (some ⟨b,off+o,none⟩))
  |h (id o n:Nat) (l:Loc) (a:Addr) (cp:Nat) (hl:L id=some l) (hn:n≤cp) (hc:o+cp≤l.cap) (ha:cp=0∨a=⟨l.D1,l.off+o,none⟩) (h0:l.kd=0):R L w M (.h id o n) (.slice (some a) n cp)
  |hs (s id o n:Nat) (l:Loc) (a:Addr) (cp:Nat) (hl:L id=some l) (hn:n≤cp) (hc:o+cp*s≤l.cap) (ha:cp=0∨a=⟨l.D1,l.off+o,none⟩) (h0:l.kd=0):R L w M (.hs s id o n) (.slice (some a) n cp)
  |q (id o:Nat) (l:Loc) (hl:L id=some l) (h0:l.kd=0):R L w M (.q id o) (.pointer (some ⟨l.D1,l.off+o,none⟩))
  |g (cs:List AV) (us:Array Value) (hs:us.size=cs.length) (hr:∀k x,cs[k]? =some x→R L w M x (us.getD k undef)):R L w M (.g cs) (.agg us)
  |t (vs:List AV) (us:Array Value) (hs:us.size=vs.length) (hr:∀k x,vs[k]? =some x→R L w M x (us.getD k undef)):R L w M (.t vs) (.tuple us)
  |f (fn:Nat) (cs:List AV) (us:Array Value) (hs:us.size=cs.length) (hr:∀k x,cs[k]? =some x→R L w M x (us.getD k undef)):R L w M (.f fn cs) (.func (.func fn) #[] us)
  |m (id:Nat) (l:Loc) (hl:L id=some l) (h0:l.kd=1):R L w M (.m id) (.map (some l.D1))
  |it (id:Nat) (l:Loc) (hl:L id=some l) (h0:l.kd=2):R L w M (.it id) (.pointer (some ⟨l.D1,0,none⟩))
def Cv(mb since:Nat)(seen:Array Nat):Nat→Value
  |0=> .map (some mb)
  |1=> .int .i64 since
  |k+2=> .int .i64 (seen.getD k 0)
structure Node(L:LM)(w:World)(M:Nat→Prop)(l:Loc)(cs:List AV):Prop where
  lt:l.D1<w.heap.size
  ex:l.kd=0→∃(arr:Array Value) (e:TypeId),w.heap[l.D1]? =some (.cells arr e (0,0))∧l.off+l.cap≤arr.size∧cs.length≤l.cap∧
    ∀k x,cs[k]? =some x→∃u,arr[l.off+k]? =some u∧R L w M x u
  mp:l.kd=1→∃es:Array MapEntry,w.heap[l.D1]? =some (.map es es.size)∧cs.length=es.size∧
    ∀k x,cs[k]? =some x→∃e:MapEntry,es[k]? =some e∧e.born=k∧R L w M x (.agg #[e.key,e.val])
  it:l.kd=2→∃(mb since:Nat) (seen:Array Nat),w.heap[l.D1]? =some (.mapIter (some mb) since seen since)∧cs.length=seen.size+2∧∀k x,cs[k]? =some x→R L w M x (Cv mb since seen k)
  kl:l.kd≤2
theorem Node.trans{L L':LM}{w w':World}{M M':Nat→Prop}{l:Loc}{cs CX:List AV}(n:Node L w M l cs)(hw:w'.heap[l.D1]? =w.heap[l.D1]?)(hl:CX.length=cs.length)
    (hR:∀(k:Nat) (x y:AV),cs[k]? =some x→CX[k]? =some y→∀u,R L w M x u→R L' w' M' y u):Node L' w' M' l CX:=by
  have hat:∀(k:Nat) (y:AV),CX[k]? =some y→∃x,cs[k]? =some x:=fun k y hk=>by
    have:=(List.getElem?_eq_some_iff.1 hk).1;exact⟨_,List.getElem?_eq_getElem (by omega)⟩
  refine⟨?_,fun h=>?_,fun h=>?_,fun h=>?_,n.kl⟩
  · have:=n.lt;rw[Array.getElem?_eq_getElem this]at hw;exact(Array.getElem?_eq_some_iff.1 hw).1
  · obtain⟨arr,e,h1,h2,h3,h4⟩:=n.ex h;exact⟨arr,e,hw.trans h1,h2,by omega,fun k y hk=>by
      obtain⟨x,hx⟩:=hat k y hk;obtain⟨u,h5,h6⟩:=h4 k x hx;exact⟨u,h5,hR k x y hx hk u h6⟩⟩
  · obtain⟨es,h1,h2,h3⟩:=n.mp h;exact⟨es,hw.trans h1,by omega,fun k y hk=>by
      obtain⟨x,hx⟩:=hat k y hk;obtain⟨e,h4,h5,h6⟩:=h3 k x hx;exact⟨e,h4,h5,hR k x y hx hk _ h6⟩⟩
  obtain⟨mb,since,seen,h1,h2,h3⟩:=n.it h;exact⟨mb,since,seen,hw.trans h1,by omega,fun k y hk=>by
    obtain⟨x,hx⟩:=hat k y hk;exact hR k x y hx hk _ (h3 k x hx)⟩
theorem Node.mono{L L':LM}{w w':World}{M M':Nat→Prop}{l:Loc}{cs:List AV}(n:Node L w M l cs)(hw:w'.heap[l.D1]? =w.heap[l.D1]?)(hR:∀(k:Nat) (x:AV),cs[k]? =some x→∀u,R L w M x u→R L' w' M' x u):Node L' w' M' l cs:=
  n.trans hw rfl fun k x y hx hy u h=>by rw[hx]at hy;cases hy;exact hR k x hx u h
theorem Node.cells{L:LM}{w:World}{M:Nat→Prop}{l:Loc}{cs:List AV}(h0:l.kd=0)(h:∃(arr:Array Value) (e:TypeId),w.heap[l.D1]? =some (.cells arr e (0,0))∧l.off+l.cap≤arr.size∧cs.length≤l.cap∧
    ∀k x,cs[k]? =some x→∃u,arr[l.off+k]? =some u∧R L w M x u):Node L w M l cs:=by
  refine⟨?_,fun _=>h,fun h1=>by omega,fun h1=>by omega,by omega⟩;obtain⟨arr,e,h1,_⟩:=h;exact(Array.getElem?_eq_some_iff.1 h1).1
structure SR(L:LM)(H:HP)(Av:Nat→Prop)(w:World):Prop where
  node:∀id cs,H id=some cs→∃l,L id=some l∧Node L w (MM L H Av) l cs
  inj:∀id id' cs CX l l',H id=some cs→H id'=some CX→L id=some l→L id'=some l'→l.D1=l'.D1→id=id'
  av:∀id cs l,H id=some cs→L id=some l→¬Av l.D1
  LP:∀b,Av b→b<w.heap.size
def gE:Obj→Prop
  | .loop _| .deferred _=>True
  |_=>False
theorem SR.book{L:LM}{H:HP}{Av:Nat→Prop}{w:World}(s:SR L H Av w){b:Nat}{o:Obj}(h:w.heap[b]? =some o)(ho:gE o):¬LB L H b:=by
  rintro⟨id,cs,l,h1,h2,rfl⟩;obtain⟨l',h3,hn⟩:=s.node id cs h1;rw[h2]at h3;cases h3;have:=hn.kl;have hk:l.kd=0∨l.kd=1∨l.kd=2:=by omega
  rcases hk with hk|hk|hk
  · obtain⟨arr,e,h4,_⟩:=hn.ex hk;rw[h]at h4;cases h4;exact ho
  · obtain⟨es,h4,_⟩:=hn.mp hk;rw[h]at h4;cases h4;exact ho
  obtain⟨mb,since,seen,h4,_⟩:=hn.it hk;rw[h]at h4;cases h4;exact ho
structure Step(L:LM)(H:HP)(w:World)(L':LM)(H':HP)(w':World):Prop where
  le:∀id l,L id=some l→L' id=some l
  os:w'.os=w.os
  tape:w'.tape=w.tape
  output:w'.output=w.output
  size:w.heap.size≤w'.heap.size
  AD:∀b,b<w.heap.size→¬LB L H b→w'.heap[b]? =w.heap[b]?
  old:∀b,b<w.heap.size→LB L' H' b→LB L H b
theorem Step.refl(L:LM)(H:HP)(w:World):Step L H w L H w:=
  ⟨fun _ _ h=>h,rfl,rfl,rfl,Nat.le_refl _,fun _ _ _=>rfl,fun _ _ h=>h⟩
theorem Step.trans{L L' L'':LM}{H H' Xu:HP}{w w' Nt:World}(a:Step L H w L' H' w')(b:Step L' H' w' L'' Xu Nt):Step L H w L'' Xu Nt:=
  ⟨fun id l h=>b.le _ _ (a.le _ _ h),b.os.trans a.os,b.tape.trans a.tape,b.output.trans a.output,Nat.le_trans a.size b.size,
   fun k hk hn=>(b.AD k (Nat.lt_of_lt_of_le hk a.size) (fun h=>hn (a.old k hk h))).trans (a.AD k hk hn),
   fun k hk h=>a.old k hk (b.old k (Nat.lt_of_lt_of_le hk a.size) h)⟩
theorem GQ{α:Type}{arr:Array α}{k:Nat}{x:α}(h:arr[k]? =some x):k<arr.size:=by
  rcases Nat.lt_or_ge k arr.size with h'|h'
  · exact h'
  rw[Array.getElem?_eq_none h']at h;cases h
theorem R.mono{L L':LM}{w w':World}{M M':Nat→Prop}(hL:∀id l,L id=some l→L' id=some l)
    (hw:∀b,b<w.heap.size→¬M b→w'.heap[b]? =w.heap[b]?) (hM:∀b,b<w.heap.size→M' b→M b) {x:AV} {u:Value} (h:R L w M x u):R L' w' M' x u:=by
  induction h with
  |j u=>exact .j u
  |i k n=>exact .i k n
  |b x=>exact .b x
  |s x=>exact .s x
  |c x=>exact .c x
  |nl=>exact .nl
  |v0 a cp=>exact .v0 a cp
  | v n cs b off cp arr e f us dN hb hn hu hr ih=>
    have BW:=GQ hb;exact .v n cs b off cp arr e f us (fun h=>dN (hM b BW h)) ((hw b BW dN).trans hb) hn hu ih
  | p o cs b off arr e f us dN hb hu hr ih=>
    have BW:=GQ hb;exact .p o cs b off arr e f us (fun h=>dN (hM b BW h)) ((hw b BW dN).trans hb) hu ih
  |h id o n l a cp hl hn hc ha h0=>exact .h id o n l a cp (hL _ _ hl) hn hc ha h0
  |hs s id o n l a cp hl hn hc ha h0=>exact .hs s id o n l a cp (hL _ _ hl) hn hc ha h0
  |q id o l hl h0=>exact .q id o l (hL _ _ hl) h0
  |m id l hl h0=>exact .m id l (hL _ _ hl) h0
  |it id l hl h0=>exact .it id l (hL _ _ hl) h0
  |g cs us hs hr ih=>exact .g cs us hs ih
  |t vs us hs hr ih=>exact .t vs us hs ih
  |f fn cs us hs hr ih=>exact .f fn cs us hs ih
theorem R.step{L L':LM}{H H':HP}{w w':World}{Av:Nat→Prop}(s:Step L H w L' H' w'){x:AV}{u:Value}(h:R L w (MM L H Av) x u):R L' w' (MM L' H' Av) x u:=
  h.mono s.le (fun b hb hn=>s.AD b hb (fun hl=>hn (.inr hl))) (fun b hb hm=>hm.imp id (s.old b hb))
def QK{α:Type}(o:Option α)(f:α→Prop):Prop:=∃a,o=some a∧f a
def ex2{α:Type}(p f:α→Prop):Prop:=∃a,p a∧f a
inductive Fl:AV→Prop
  |j:Fl .j
  |i (k:IntKind) (n:Int):Fl (.i k n)
  |b (x:Bool):Fl (.b x)
  |s (x:ByteArray):Fl (.s x)
  |c (x:Value):Fl (.c x)
  |nl:Fl .nl
  |v0:Fl (.v 0 [])
  |h (id o n:Nat):Fl (.h id o n)
  |hs (s id o n:Nat):Fl (.hs s id o n)
  |q (id o:Nat):Fl (.q id o)
  |m (id:Nat):Fl (.m id)
  |it (id:Nat):Fl (.it id)
  |g (cs:List AV) (hr:∀(k:Nat) (x:AV),cs[k]? =some x→Fl x):Fl (.g cs)
  |t (cs:List AV) (hr:∀(k:Nat) (x:AV),cs[k]? =some x→Fl x):Fl (.t cs)
  |f (fn:Nat) (cs:List AV) (hr:∀(k:Nat) (x:AV),cs[k]? =some x→Fl x):Fl (.f fn cs)
theorem R.fl{L L':LM}{w w':World}{M M':Nat→Prop}(hL:∀id l,L id=some l→L' id=some l){x:AV}(hf:Fl x){u:Value}(h:R L w M x u):R L' w' M' x u:=by
  induction h with
  |j u=>exact .j u
  |i k n=>exact .i k n
  |b x=>exact .b x
  |s x=>exact .s x
  |c x=>exact .c x
  |nl=>exact .nl
  |v0 a cp=>exact .v0 a cp
  | v n cs b off cp arr e f us dN hb hn hu hr ih=>
    cases hf;exact .v0 _ _
  |p o cs b off arr e f us dN hb hu hr ih=>cases hf
  |h id o n l a cp hl hn hc ha h0=>exact .h id o n l a cp (hL _ _ hl) hn hc ha h0
  |hs s id o n l a cp hl hn hc ha h0=>exact .hs s id o n l a cp (hL _ _ hl) hn hc ha h0
  |q id o l hl h0=>exact .q id o l (hL _ _ hl) h0
  |m id l hl h0=>exact .m id l (hL _ _ hl) h0
  |it id l hl h0=>exact .it id l (hL _ _ hl) h0
  |g cs us hs hr ih=>cases hf with|g _ hf=>exact .g cs us hs (fun k x hx=>ih k x hx (hf k x hx))
  |t vs us hs hr ih=>cases hf with|t _ hf=>exact .t vs us hs (fun k x hx=>ih k x hx (hf k x hx))
  |f fn cs us hs hr ih=>cases hf with|f _ _ hf=>exact .f fn cs us hs (fun k x hx=>ih k x hx (hf k x hx))
inductive NR:AV→Prop
  |j:NR .j
  |i (k:IntKind) (n:Int):NR (.i k n)
  |b (x:Bool):NR (.b x)
  |s (x:ByteArray):NR (.s x)
  |c (x:Value):NR (.c x)
  |nl:NR .nl
  |v (n:Nat) (cs:List AV) (hr:∀(k:Nat) (x:AV),cs[k]? =some x→NR x):NR (.v n cs)
  |p (n:Nat) (cs:List AV) (hr:∀(k:Nat) (x:AV),cs[k]? =some x→NR x):NR (.p n cs)
  |g (cs:List AV) (hr:∀(k:Nat) (x:AV),cs[k]? =some x→NR x):NR (.g cs)
  |t (cs:List AV) (hr:∀(k:Nat) (x:AV),cs[k]? =some x→NR x):NR (.t cs)
  |f (fn:Nat) (cs:List AV) (hr:∀(k:Nat) (x:AV),cs[k]? =some x→NR x):NR (.f fn cs)
theorem R.nr{L L':LM}{w:World}{M:Nat→Prop}{x:AV}(hf:NR x){u:Value}(h:R L w M x u):R L' w M x u:=by
  induction h with
  |j u=>exact .j u
  |i k n=>exact .i k n
  |b x=>exact .b x
  |s x=>exact .s x
  |c x=>exact .c x
  |nl=>exact .nl
  |v0 a cp=>exact .v0 a cp
  | v n cs b off cp arr e f us dN hb hn hu hr ih=>
    cases hf with|v _ _ hf=>exact .v n cs b off cp arr e f us dN hb hn hu (fun k x hx=>ih k x hx (hf k x hx))
  | p o cs b off arr e f us dN hb hu hr ih=>
    cases hf with|p _ _ hf=>exact .p o cs b off arr e f us dN hb hu (fun k x hx=>ih k x hx (hf k x hx))
  |h id o n l a cp hl hn hc ha h0=>cases hf
  |hs s id o n l a cp hl hn hc ha h0=>cases hf
  |q id o l hl h0=>cases hf
  |m id l hl h0=>cases hf
  |it id l hl h0=>cases hf
  |g cs us hs hr ih=>cases hf with|g _ hf=>exact .g cs us hs (fun k x hx=>ih k x hx (hf k x hx))
  |t vs us hs hr ih=>cases hf with|t _ hf=>exact .t vs us hs (fun k x hx=>ih k x hx (hf k x hx))
  |f fn cs us hs hr ih=>cases hf with|f _ _ hf=>exact .f fn cs us hs (fun k x hx=>ih k x hx (hf k x hx))
def AU(H:HP)(id:Nat)(d:Option (List AV)):HP:=fun id'=>if id'=id then d else H id'
def GR(L:LM)(id:Nat)(l:Loc):LM:=fun id'=>if id'=id then some l else L id'
@[simp] theorem A1 (H:HP) (id:Nat) (d:Option (List AV)):AU H id d id=d:=by simp[AU]
theorem A0(H:HP){id id':Nat}(d:Option (List AV))(h:id'≠id):AU H id d id'=H id':=by simp[AU,h]
@[simp] theorem BR (L:LM) (id:Nat) (l:Loc):GR L id l id=some l:=by simp[GR]
theorem C3(L:LM){id id':Nat}(l:Loc)(h:id'≠id):GR L id l id'=L id':=by simp[GR,h]
theorem gF{L:LM}{id:Nat}(h:L id=none)(l:Loc):∀id' l',L id'=some l'→GR L id l id'=some l':=by
  intro id' l' h';by_cases e:id'=id
  · subst e;rw[h]at h';cases h'
  rw[C3 _ _ e];exact h'
def S2(B:Nat):List Deferred→World→Prop
  |[],_=>True
  |d::ds,w=>(∃D,d={target:= .collected D,args:=#[]}∧w.heap[D]? =some (.deferred (some []))∧B≤D∧∀E,({target:= .collected E,args:=#[]}:Deferred)∈ds→E≠D)∧S2 B ds w
theorem S2.of{B:Nat}{w w':World}:∀{ds:List Deferred},S2 B ds w→(∀D,({target:= .collected D,args:=#[]}:Deferred)∈ds→w.heap[D]? =some (.deferred (some []))→w'.heap[D]? =w.heap[D]?)→S2 B ds w':=by
  intro ds;induction ds with
  |nil=>intro _ _;exact trivial
  | cons d ds ih=>
    rintro⟨⟨D,rfl,h2,h3,h4⟩,h5⟩ h;exact⟨⟨D,rfl,(h D (by simp) h2).trans h2,h3,h4⟩,ih h5 fun E hE=>h E (List.mem_cons_of_mem _ hE)⟩
theorem S2.step{B:Nat}{L L':LM}{H H':HP}{Av:Nat→Prop}{w w':World}{ds:List Deferred}(h:S2 B ds w)(s:SR L H Av w)(st:Step L H w L' H' w'):S2 B ds w':=
  h.of fun D _ h2=>st.AD D (GQ h2) (s.book h2 trivial)
theorem S2.same{B:Nat}{w w':World}{ds:List Deferred}(h:S2 B ds w)(hw:w'.heap=w.heap):S2 B ds w':=h.of fun D _ _=>by rw[hw]
theorem R.IW{L:LM}{w:World}{M:Nat→Prop}{b:Nat}{o:Obj}(hb:w.heap[b]? =some o)(ho:gE o)(o':Obj){x:AV}{u:Value}(h:R L w M x u):R L (w.putObj b o') M x u:=by
  have key:∀{k:Nat} {arr:Array Value} {e:TypeId} {f:Nat×Nat},w.heap[k]? =some (.cells arr e f)→(w.putObj b o').heap[k]? =some (.cells arr e f):=by
    intro k arr e f h;refine(World.putObj_heap_other ?_).trans h;rintro rfl;rw[hb]at h;cases h;exact ho
  induction h with
  |j u=>exact .j u
  |i k n=>exact .i k n
  |b x=>exact .b x
  |s x=>exact .s x
  |c x=>exact .c x
  |nl=>exact .nl
  |v0 a cp=>exact .v0 a cp
  |v n cs b off cp arr e f us dN hb hn hu hr ih=>exact .v n cs b off cp arr e f us dN (key hb) hn hu ih
  |p o cs b off arr e f us dN hb hu hr ih=>exact .p o cs b off arr e f us dN (key hb) hu ih
  |h id o n l a cp hl hn hc ha h0=>exact .h id o n l a cp hl hn hc ha h0
  |hs s id o n l a cp hl hn hc ha h0=>exact .hs s id o n l a cp hl hn hc ha h0
  |q id o l hl h0=>exact .q id o l hl h0
  |m id l hl h0=>exact .m id l hl h0
  |it id l hl h0=>exact .it id l hl h0
  |g cs us hs hr ih=>exact .g cs us hs ih
  |t vs us hs hr ih=>exact .t vs us hs ih
  |f fn cs us hs hr ih=>exact .f fn cs us hs ih
theorem SR.IW{L:LM}{H:HP}{Av:Nat→Prop}{w:World}(s:SR L H Av w){b:Nat}{o:Obj}(hb:w.heap[b]? =some o)(ho:gE o)(o':Obj):SR L H Av (w.putObj b o'):=by
  refine⟨?_,s.inj,s.av,fun k hk=>by rw[World.putObj_size];exact s.LP k hk⟩;intro id cs h;obtain⟨l,h1,hn⟩:=s.node id cs h;refine⟨l,h1,hn.mono (World.putObj_heap_other ?_) fun k x _ u hr=>hr.IW hb ho o'⟩;intro e;exact s.book hb ho ⟨id,cs,l,h,h1,e⟩
theorem Step.IW{L L':LM}{H H':HP}{w w':World}(st:Step L H w L' H' w'){b:Nat}(hb:w.heap.size≤b)(o':Obj):Step L H w L' H' (w'.putObj b o'):=
  ⟨st.le,st.os,st.tape,st.output,by rw[World.putObj_size];exact st.size,fun k hk hl=>(World.putObj_heap_other (by omega)).trans (st.AD k hk hl),st.old⟩
end Go.Proofs.YtghmeeifjeafmaaGreat
namespace Go.Proofs.YtghmeeifjeafmaaGreat
inductive TD where
  |bool
  |int (k:IntKind)
  |str
  |slice (el:TypeId)
  |struct (fs:List (TypeId×Nat))
  |array (n:Nat) (el:TypeId)
  |map (k el:TypeId)
  |other
def NF:TypeDesc→TD
  | .bool=> .bool
  | .int k=> .int k
  | .string=> .str
  | .slice el=> .slice el
  | .struct fs=> .struct (fs.toList.map fun f=>(f.type,f.offset))
  | .array n el=> .array n el
  | .map k el=> .map k el
  |_=> .other
structure TE where
  d:TD
  size:Nat
  bytes:Nat
  zero:Value
  Xv:Bool
def Cw(P:Program)(ty:TypeId):Bool:=
  !P.stoodInHeld ty && !P.eqGuardType P.depth ty && match P.underlying ty with
  | some (.struct fs)=>match fs.toList with
    |[a,b,c,d]=>[(a,0),(b,1),(c,2),(d,3)].all fun (f,o)=>f.name != "_" && f.offset==o &&(match P.underlying f.type with|some (.int .i64)=>true|_=>false)
    |_=>false
  |_=>false
def TE.agg(x:TE):Bool:=match x.d with| .struct _=>true| .array _ _=>true|_=>false
structure DU(P:Program)(ty:TypeId)(x:TE):Prop where
  und:(P.underlying ty).map NF=some x.d
  inf:(P.info? ty).map (fun i=>(i.size,i.bytes,i.zero))=some (x.size,x.bytes,some x.zero)
  Xv:x.Xv=true→Cw P ty=true
theorem DU.info{P:Program}{ty:TypeId}{x:TE}(h:DU P ty x):∃i,P.info? ty=some i∧i.size=x.size∧i.bytes=x.bytes∧i.zero=some x.zero:=by
  have:=h.inf;cases hi:P.info? ty with
  |none=>rw[hi]at this;cases this
  | some i=>
    rw[hi]at this;simp only[Option.map_some,Option.some.injEq,Prod.mk.injEq]at this;exact⟨i,rfl,this.1,this.2.1,this.2.2⟩
theorem DU.CL{P:Program}{ty:TypeId}{x:TE}(h:DU P ty x):∃d,NF d=x.d∧P.underlying ty=some d∧∀w,(underlying ty).run P w= .ok d w:=by
  have:=h.und;cases hd:P.underlying ty with
  |none=>rw[hd]at this;cases this
  | some d=>
    rw[hd]at this;exact⟨d,by simpa using this,rfl,fun w=>by simp[go_sem,underlying,hd]⟩
theorem uM{d:TypeDesc}(h:NF d= .bool):d= .bool:=by cases d<;>simp[NF]at h;rfl
theorem OB{d:TypeDesc}(h:NF d= .str):d= .string:=by cases d<;>simp[NF]at h;rfl
theorem YC{d:TypeDesc}{k:IntKind}(h:NF d= .int k):d= .int k:=by cases d<;>simp[NF]at h;rw[h]
theorem GS{d:TypeDesc}{el:TypeId}(h:NF d= .slice el):d= .slice el:=by cases d<;>simp[NF]at h;rw[h]
theorem kR{d:TypeDesc}{l:List (TypeId×Nat)}(h:NF d= .struct l):∃fs,d= .struct fs∧fs.toList.map (fun f=>(f.type,f.offset))=l:=by
  cases d<;>simp[NF]at h
  exact⟨_,rfl,h⟩
theorem Cx{d:TypeDesc}{k el:TypeId}(h:NF d= .map k el):d= .map k el:=by cases d<;>simp[NF]at h;rw[h.1,h.2]
theorem DU.map{P:Program}{ty k el:TypeId}{x:TE}(h:DU P ty x)(hd:x.d= .map k el):∀w,(underlying ty).run P w= .ok (.map k el) w:=by
  obtain⟨d,h1,h2,h3⟩:=h.CL;have:=Cx (h1.trans hd);subst this;exact h3
theorem DU.int{P:Program}{ty:TypeId}{k:IntKind}{x:TE}(h:DU P ty x)(hd:x.d= .int k):∀w,(underlying ty).run P w= .ok (.int k) w:=by
  obtain⟨d,h1,h2,h3⟩:=h.CL;have:=YC (h1.trans hd);subst this;exact h3
theorem DU.slice{P:Program}{ty el:TypeId}{x:TE}(h:DU P ty x)(hd:x.d= .slice el):P.underlying ty=some (.slice el)∧∀w,(underlying ty).run P w= .ok (.slice el) w:=by
  obtain⟨d,h1,h2,h3⟩:=h.CL;have:=GS (h1.trans hd);subst this;exact⟨h2,h3⟩
theorem DU.struct{P:Program}{ty:TypeId}{l:List (TypeId×Nat)}{x:TE}(h:DU P ty x)(hd:x.d= .struct l):∃fs:Array Field,fs.toList.map (fun f=>(f.type,f.offset))=l∧∀w,(underlying ty).run P w= .ok (.struct fs) w:=by
  obtain⟨d,h1,h2,h3⟩:=h.CL;obtain⟨fs,rfl,h4⟩:=kR (h1.trans hd);exact⟨fs,h4,h3⟩
theorem DU.F2{P:Program}{ty:TypeId}{x:TE}(h:DU P ty x)(w:World):∃i,(typeInfo ty).run P w= .ok i w∧i.size=x.size∧i.bytes=x.bytes∧i.zero=some x.zero:=by
  obtain⟨i,h1,h2⟩:=h.info;exact⟨i,by simp[go_sem,typeInfo,h1],h2⟩
theorem DU.CI{P:Program}{ty:TypeId}{x:TE}(h:DU P ty x)(w:World):(sizeOf ty).run P w= .ok x.size w:=by
  obtain⟨i,h1,h2,h3⟩:=h.F2 w;simp[go_sem,sizeOf,h1,h2]
theorem DU.F3{P:Program}{ty:TypeId}{x:TE}(h:DU P ty x)(w:World):(zeroValue ty).run P w= .ok x.zero w:=by
  obtain⟨i,h1,h2,h3,h4⟩:=h.F2 w;simp[go_sem,zeroValue,h1,h4]
theorem DU.YD{P:Program}{ty:TypeId}{x:TE}(h:DU P ty x)(w:World):(isAgg ty).run P w= .ok x.agg w:=by
  obtain⟨d,h1,h2,h3⟩:=h.CL;unfold isAgg TE.agg;simp only[Sem.run_bind,h3 w,Result.andThen];rw[←h1];cases d<;>simp[go_sem,NF]
theorem NZ(w:World)(o:Obj){b:Nat}(h:b<w.heap.size):(w.alloc o).heap[b]? =w.heap[b]? :=by
  show(w.heap.push o)[b]? =_
  rw[Array.getElem?_push,if_neg (by omega)]
theorem heap_alloc_new(w:World)(o:Obj):(w.alloc o).heap[w.heap.size]? =some o:=by
  show(w.heap.push o)[w.heap.size]? =_
  simp
theorem Step.aC{L L':LM}{H H':HP}{w:World}(o:Obj)(hL:∀id l,L id=some l→L' id=some l)(hold:∀b,b<w.heap.size→LB L' H' b→LB L H b):Step L H w L' H' (w.alloc o):=
  ⟨hL,rfl,rfl,rfl,by simp,fun b hb _=>NZ w o hb,hold⟩
theorem IX{L:LM}{H:HP}{Av:Nat→Prop}{w:World}(s:SR L H Av w){b:Nat}(h:LB L H b):b<w.heap.size:=by
  obtain⟨id,cs,l,h1,h2,h3⟩:=h;obtain⟨l',h4,hn⟩:=s.node id cs h1;rw[h2]at h4;cases h4;exact h3▸hn.lt
theorem LQ{L:LM}{H:HP}{Av:Nat→Prop}{w:World}(s:SR L H Av w){id:Nat}(hL:L id=none)(hH:H id=none)(o:Obj)(m:Loc)(hm:m.D1=w.heap.size)(cs:List AV)
    (hn:(∀{x:AV} {u:Value},R L w (MM L H Av) x u→R (GR L id m) (w.alloc o) (MM (GR L id m) (AU H id (some cs)) Av) x u)→Node (GR L id m) (w.alloc o) (MM (GR L id m) (AU H id (some cs)) Av) m cs):
    SR (GR L id m) (AU H id (some cs)) Av (w.alloc o)∧Step L H w (GR L id m) (AU H id (some cs)) (w.alloc o):=by
  have EM:Step L H w (GR L id m) (AU H id (some cs)) (w.alloc o):=by
    refine Step.aC _ (gF hL _) ?_;rintro b hb ⟨id',CX,l',h1,h2,h3⟩;by_cases DA:id'=id
    · subst DA;rw[BR]at h2;cases h2;omega
    rw[A0 _ _ DA]at h1;rw[C3 _ _ DA]at h2;exact⟨id',CX,l',h1,h2,h3⟩
  refine⟨⟨?_,?_,?_,?_⟩,EM⟩
  · intro id' CX h;by_cases DA:id'=id
    · subst DA;rw[A1]at h;cases h;exact⟨_,BR _ _ _,hn fun h=>h.step EM⟩
    rw[A0 _ _ DA]at h;obtain⟨l,h1,CY⟩:=s.node id' CX h;exact⟨l,by rw[C3 _ _ DA];exact h1,CY.mono (NZ _ _ CY.lt) fun k x hk u h7=>h7.step EM⟩
  · intro i i' c c' l l' h1 h2 h3 h4 h5;by_cases hi:i=id<;>by_cases FV:i'=id
    · omega
    · subst hi;rw[BR]at h3;cases h3;rw[A0 _ _ FV]at h2;rw[C3 _ _ FV]at h4;have:=IX s ⟨i',c',l',h2,h4,rfl⟩;omega
    · subst FV;rw[BR]at h4;cases h4;rw[A0 _ _ hi]at h1;rw[C3 _ _ hi]at h3;have:=IX s ⟨i,c,l,h1,h3,rfl⟩;omega
    rw[A0 _ _ hi]at h1;rw[C3 _ _ hi]at h3;rw[A0 _ _ FV]at h2;rw[C3 _ _ FV]at h4;exact s.inj i i' c c' l l' h1 h2 h3 h4 h5
  · intro i c l h1 h2;by_cases hi:i=id
    · subst hi;rw[BR]at h2;cases h2;intro h;have:=s.LP _ h;omega
    rw[A0 _ _ hi]at h1;rw[C3 _ _ hi]at h2;exact s.av i c l h1 h2
  intro b hb;have:=s.LP b hb;simp;omega
theorem I5{L:LM}{H:HP}{Av:Nat→Prop}{w:World}(s:SR L H Av w){id:Nat}(hL:L id=none)(hH:H id=none)(arr:Array Value)(e:TypeId)(cp:Nat)(cs:List AV)
    (TX:cp≤arr.size) (hlen:cs.length≤cp) (JL:∀(k:Nat) (x:AV),cs[k]? =some x→∃u,arr[k]? =some u∧R L w (MM L H Av) x u):
    SR (GR L id ⟨w.heap.size,0,cp,0⟩) (AU H id (some cs)) Av (w.alloc (.cells arr e (0,0)))∧Step L H w (GR L id ⟨w.heap.size,0,cp,0⟩) (AU H id (some cs)) (w.alloc (.cells arr e (0,0))):=by
  refine LQ s hL hH _ _ rfl cs fun hR=>Node.cells rfl ⟨arr,e,heap_alloc_new _ _,by simpa using TX,hlen,?_⟩
  intro k x hk;obtain⟨u,h1,h2⟩:=JL k x hk;exact⟨u,by simpa using h1,hR h2⟩
def CQ(w:World)(b:Nat)(o:Obj):World:={w with heap:=w.heap.setIfInBounds b o}
theorem IY(w:World)(b:Nat)(o:Obj):(CQ w b o).heap.size=w.heap.size:=by simp[CQ]
theorem XE(w:World){b b':Nat}(o:Obj)(h:b'≠b):(CQ w b o).heap[b']? =w.heap[b']? :=by
  simp only[CQ];rw[Array.getElem?_setIfInBounds_ne (by omega)]
theorem LR(w:World){b:Nat}(o:Obj)(h:b<w.heap.size):(CQ w b o).heap[b]? =some o:=by
  simp only[CQ];rw[Array.getElem?_setIfInBounds_self_of_lt h]
theorem OC{L:LM}{H:HP}{Av:Nat→Prop}{w:World}(s:SR L H Av w){id id':Nat}{cs:List AV}{l l':Loc}(hH:H id=some cs)(hl:L id=some l)(DA:(id'=id∧l'=l)∨(L id'=none∧H id'=none))
    (tR:l'.D1=l.D1) (o:Obj) (CX:List AV)
    (hn:(∀{x:AV} {u:Value},R L w (MM L H Av) x u→R (GR L id' l') (CQ w l.D1 o) (MM (GR L id' l') (AU (AU H id none) id' (some CX)) Av) x u)→Node (GR L id' l') (CQ w l.D1 o) (MM (GR L id' l') (AU (AU H id none) id' (some CX)) Av) l' CX):
    SR (GR L id' l') (AU (AU H id none) id' (some CX)) Av (CQ w l.D1 o)∧Step L H w (GR L id' l') (AU (AU H id none) id' (some CX)) (CQ w l.D1 o):=by
  have hle:∀i m,L i=some m→GR L id' l' i=some m:=by
    rcases DA with ⟨rfl,rfl⟩|⟨h,_⟩
    · intro i m hm;by_cases hi:i=id'
      · subst hi;rw[BR,←hm,hl]
      rw[C3 _ _ hi];exact hm
    exact gF h _
  have QP:LB L H l.D1:=⟨id,cs,l,hH,hl,rfl⟩;have BW:=IX s QP;have TY:∀i c,i≠id'→AU (AU H id none) id' (some CX) i=some c→i≠id∧H i=some c:=by
    intro i c hi h;rw[A0 _ _ hi]at h;by_cases uN:i=id
    · subst uN;rw[A1]at h;cases h
    rw[A0 _ _ uN]at h;exact⟨uN,h⟩
  have EM:Step L H w (GR L id' l') (AU (AU H id none) id' (some CX)) (CQ w l.D1 o):=by
    refine⟨hle,rfl,rfl,rfl,by rw[IY];exact Nat.le_refl _,?_,?_⟩
    · intro b hb hn;exact XE _ _ (fun h=>hn (h▸QP))
    rintro b hb ⟨i,c,m,h1,h2,h3⟩;by_cases hi:i=id'
    · subst hi;rw[BR]at h2;cases h2;rw[←h3,tR];exact QP
    rw[C3 _ _ hi]at h2;exact⟨i,c,m,(TY i c hi h1).2,h2,h3⟩
  refine⟨⟨?_,?_,?_,?_⟩,EM⟩
  · intro i c h;by_cases hi:i=id'
    · subst hi;rw[A1]at h;cases h;exact⟨_,BR _ _ _,hn fun h=>h.step EM⟩
    obtain⟨uN,hh⟩:=TY i c hi h;obtain⟨m,h1,CY⟩:=s.node i c hh;have AL:m.D1≠l.D1:=fun he=>uN (s.inj i id c cs m l hh hH h1 hl he)
    exact⟨m,by rw[C3 _ _ hi];exact h1,CY.mono (XE _ _ AL) fun k x hk u h7=>h7.step EM⟩
  · intro i i' c c' m m' h1 h2 h3 h4 h5;by_cases hi:i=id'<;>by_cases FV:i'=id'
    · omega
    · subst hi;rw[BR]at h3;cases h3;obtain⟨uN,hh⟩:=TY i' c' FV h2;rw[C3 _ _ FV]at h4;exact absurd (s.inj i' id c' cs m' l hh hH h4 hl (by rw[←h5,tR])) uN
    · subst FV;rw[BR]at h4;cases h4;obtain⟨uN,hh⟩:=TY i c hi h1;rw[C3 _ _ hi]at h3;exact absurd (s.inj i id c cs m l hh hH h3 hl (by rw[h5,tR])) uN
    obtain⟨_,hh⟩:=TY i c hi h1;obtain⟨_,hh'⟩:=TY i' c' FV h2;rw[C3 _ _ hi]at h3;rw[C3 _ _ FV]at h4;exact s.inj i i' c c' m m' hh hh' h3 h4 h5
  · intro i c m h1 h2;by_cases hi:i=id'
    · subst hi;rw[BR]at h2;cases h2;rw[tR];exact s.av id cs l hH hl
    obtain⟨_,hh⟩:=TY i c hi h1;rw[C3 _ _ hi]at h2;exact s.av i c m hh h2
  intro b hb;rw[IY];exact s.LP b hb
theorem MV{L:LM}{H:HP}{Av:Nat→Prop}{w:World}(s:SR L H Av w){id id':Nat}{cs:List AV}{l l':Loc}(hH:H id=some cs)(hl:L id=some l)(DA:(id'=id∧l'=l)∨(L id'=none∧H id'=none))
    (tR:l'.D1=l.D1) (GA:l'.kd=0) (arr:Array Value) (e:TypeId) (CX:List AV) (A00:l'.off+l'.cap≤arr.size) (hlen:CX.length≤l'.cap)
    (JL:∀(k:Nat) (x:AV),CX[k]? =some x→∃u,arr[l'.off+k]? =some u∧R L w (MM L H Av) x u):
    SR (GR L id' l') (AU (AU H id none) id' (some CX)) Av (CQ w l.D1 (.cells arr e (0,0)))∧Step L H w (GR L id' l') (AU (AU H id none) id' (some CX)) (CQ w l.D1 (.cells arr e (0,0))):=by
  refine OC s hH hl DA tR _ CX fun hR=>Node.cells GA ⟨arr,e,by rw[tR];exact LR _ _ (IX s ⟨id,cs,l,hH,hl,rfl⟩),A00,hlen,?_⟩
  intro k x hk;obtain⟨u,h1,h2⟩:=JL k x hk;exact⟨u,h1,hR h2⟩
end Go.Proofs.YtghmeeifjeafmaaGreat
namespace Go.Proofs.YtghmeeifjeafmaaGreat
theorem T3(L:LM){id:Nat}{l:Loc}(h:L id=some l):GR L id l=L:=by
  funext i;unfold GR;split
  · rename_i hi;rw[hi,h]
  rfl
theorem K4(H:HP)(id:Nat)(a b:Option (List AV)):AU (AU H id a) id b=AU H id b:=by
  funext i;unfold AU;split<;>rfl
def QV(P:Program)(o:Oper)(ρ:Operand→Value)(w:World)(post:Value→World→Prop):Prop:=
  match (execOp ρ o).run P w with
  | .ok (.value u) w'=>post u w'
  | .ok .skip w'=>post undef w'
  | .ok (.enter f args) w'=>Calls P f args w' fun e Nt=>∃u,e= .returned u∧post u Nt
  |_=>False
def fw(rd:Option Nat):Fence:={Fence.wide with round:=rd}
theorem nC{rd:Option Nat}{n:Nat}{P:Program}{f:FuncId}{args:Array Value}{w:World}{R:Ending→World→Prop}(h:Calls P f args w R):CallsIn (fw rd) n P f args w R:=by
  have h1:=(callsIn_wide (n:=n)).2 h;cases rd with
  |none=>exact h1
  |some l=>exact h1.inRound l
def nD(rd:Option Nat)(P:Program)(o:Oper)(a:Act)(w:World)(K:Act→World→Prop)(Q:Exit→Act→World→Prop):Prop:=o.wpIn (fw rd) 0 P a w K Q
def Cz(rd:Option Nat)(P:Program)(ops:Array Oper)(Q:Exit→Act→World→Prop):List Oper→Act→World→Prop
  |[],a,w=>Q .normal a w
  |o::rest,a,w=>if Region.wanted o (yielded ops a.tmps)then nD rd P o a w (Cz rd P ops Q rest) Q∨False else Cz rd P ops Q rest (a.put o.dst undef) w
def Lt(rd:Option Nat)(P:Program)(ops:Array Oper)(Q:Exit→Act→World→Prop)(i:Nat)(K:Act→World→Prop)(a:Act)(w:World):Prop:=
  match ops[i]? with
  |none=>K a w
  |some o=>if Region.wanted o (yielded ops a.tmps)then nD rd P o a w K Q∨False else K (a.put o.dst undef) w
def tS(rd:Option Nat)(P:Program)(md:Region.Mode)(ops:Array Oper)(Q:Exit→Act→World→Prop):Nat→Array Bool→Act→World→Prop
  |0,AA,a,w=>Region.ready md ops AA=[]∧Q .normal a w
  | fuel+1,AA,a,w=>
    (Region.ready md ops AA=[]→Q .normal a w)∧
    ∀i∈Region.ready md ops AA,Lt rd P ops Q i (tS rd P md ops Q fuel (AA.setIfInBounds i true)) a w
theorem Da{rd:Option Nat}{P:Program}{ops:Array Oper}{Q:Exit→Act→World→Prop}:∀(l:List Oper) (a:Act) (w:World),Cz rd P ops Q l a w→wpListIn (fw rd) 0 P ops Q l a w:=by
  intro l;induction l with
  |nil=>intro a w h;exact h
  | cons o l ih=>
    intro a w h;unfold Cz at h;unfold wpListIn;split at h
    · rename_i hw;rw[if_pos hw];exact Oper.wpIn_mono ih (h.resolve_right id)
    rename_i hw;rw[if_neg hw];exact⟨fun _ _=>trivial,ih _ _ h⟩
theorem dO{rd:Option Nat}{P:Program}{id:Nat}{ops:Array Oper}{Q:Exit→Act→World→Prop}{a:Act}{w:World}(h:Cz rd P ops Q ops.toList a w):(Code.region id ops false).wpIn (fw rd) 0 P Q a w:=
  wpIn_region_list (Da _ _ _ h)
theorem Db{rd:Option Nat}{P:Program}{md:Region.Mode}{ops:Array Oper}{Q:Exit→Act→World→Prop}:∀(fuel:Nat) (AA:Array Bool) (a:Act) (w:World),tS rd P md ops Q fuel AA a w→wpAnyIn (fw rd) 0 P md ops Q fuel AA a w:=by
  intro fuel;induction fuel with
  |zero=>intro AA a w h;exact h
  | succ fuel ih=>
    intro AA a w h;refine⟨h.1,fun i hi=>?_⟩;have h1:=h.2 i hi;unfold Lt at h1;unfold wpOpIn;cases ho:ops[i]? with
    |none=>rw[ho]at h1;exact ih _ _ _ h1
    | some o=>
      rw[ho]at h1;simp only at h1 ⊢
      split at h1
      · rename_i hw;rw[if_pos hw];exact Oper.wpIn_mono (ih _) (h1.resolve_right id)
      rename_i hw;rw[if_neg hw];exact⟨fun _ _=>trivial,ih _ _ _ h1⟩
theorem OD{rd:Option Nat}{P:Program}{id:Nat}{ops:Array Oper}{Q:Exit→Act→World→Prop}{a:Act}{w:World}(hm:P.follows .mixedOrders=true)
    (h:tS rd P .any ops Q ops.size (Array.replicate ops.size false) a {w with drawn:=w.drawn+1}):(Code.region id ops true).wpIn (fw rd) 0 P Q a w:=
  wpIn_region_any hm (Db _ _ _ _ h)
theorem QV.wp{rd:Option Nat}{P:Program}{o:Oper}{a:Act}{w:World}{post:Value→World→Prop}{K:Act→World→Prop}{Q:Exit→Act→World→Prop}(h:QV P o a.eval w post)
    (hk:∀u w',post u w'→K (a.put o.dst u) w'):nD rd P o a w K Q:=by
  refine⟨fun _ _=>trivial,?_⟩;have A01:o.semAt (fw rd).round a.eval=execOp a.eval o:=by
    cases rd with
    |none=>rfl
    | some l=>
      refine Oper.semAt_some l _ _ fun c hc=>?_
      unfold QV at h;simp only[execOp,hc,Sem.run_bind]at h;generalize (resolve a.eval c o.type).run P w=r at h
      cases r with
      |halt x w'=>exact h
      |ok d w'=>simp[Result.andThen]at h
  rw[A01];unfold QV at h;generalize (execOp a.eval o).run P w=r at h
  cases r with
  |halt x w'=>exact h.elim
  | ok n w'=>
    cases n<;>try exact h.elim
    · exact hk _ _ h
    · exact hk _ _ h
    refine⟨fun hd=>(by cases hd),nC (Calls.mono h ?_)⟩;intro e Nt he;obtain⟨u,he,hp⟩:=he;subst he;exact hk _ _ hp
theorem QV.CJ{P:Program}{o:Oper}{ρ:Operand→Value}{w w':World}{post:Value→World→Prop}{u:Value}(h:(execOp ρ o).run P w= .ok (.value u) w')(hp:post u w'):QV P o ρ w post:=by
  unfold QV;rw[h];exact hp
theorem QV.gG{P:Program}{o:Oper}{ρ:Operand→Value}{w w':World}{post:Value→World→Prop}(h:(execOp ρ o).run P w= .ok .skip w')(hp:post undef w'):QV P o ρ w post:=by
  unfold QV;rw[h];exact hp
def YE(P:Program)(o:Oper)(ev:Operand→AV)(H:HP)(id:Nat)(k:AV→HP→Prop):Prop:=
  ∀ (L:LM) (Av:Nat→Prop) (w:World) (ρ:Operand→Value),SR L H Av w→(∃n,∀i,n≤i→L i=none)→L id=none→H id=none→(∀x∈o.op.operands,R L w (MM L H Av) (ev x) (ρ x))→
    QV P o ρ w fun u w'=>∃r H' L',k r H'∧(∀i,i≠id→L' i=L i)∧SR L' H' Av w'∧Step L H w L' H' w'∧R L' w' (MM L' H' Av) r u
def FG(H:HP)(id:Nat):Option (List AV)→HP
  |none=>H
  |some cs=>AU H id (some cs)
def E5(P:Program)(o:Oper)(ev:Operand→AV)(H:HP)(id:Nat)(r:AV)(d:Option (List AV)):Prop:=
  ∀H',(∀i c,H i=some c→H' i=some c)→YE P o ev H' id fun r' Xu=>r'=r∧Xu=FG H' id d
theorem E5.pure{P:Program}{o:Oper}{ev:Operand→AV}{H:HP}{id:Nat}{r:AV}
    (h:∀(H':HP),(∀i c,H i=some c→H' i=some c)→∀(L:LM) (Av:Nat→Prop) (w:World) (ρ:Operand→Value),SR L H' Av w→(∀x∈o.op.operands,R L w (MM L H' Av) (ev x) (ρ x))→
      ∃u,(execOp ρ o).run P w= .ok (.value u) w∧R L w (MM L H' Av) r u):E5 P o ev H id r none:=by
  intro H' hH L Av w ρ hs ZW hL hi hr;obtain⟨u,h1,h2⟩:=h H' hH L Av w ρ hs hr;exact .CJ h1 ⟨r,H',L,⟨rfl,rfl⟩,fun _ _=>rfl,hs,Step.refl _ _ _,h2⟩
theorem E5.new{P:Program}{o:Oper}{ev:Operand→AV}{H:HP}{id:Nat}{r:AV}{cs:List AV}
    (h:∀(H':HP),(∀i c,H i=some c→H' i=some c)→∀(L:LM) (Av:Nat→Prop) (w:World) (ρ:Operand→Value),SR L H' Av w→(∀x∈o.op.operands,R L w (MM L H' Av) (ev x) (ρ x))→
      ∃ u arr e cp,(execOp ρ o).run P w= .ok (.value u) (w.alloc (.cells arr e (0,0)))∧cp≤arr.size∧cs.length≤cp∧(∀(k:Nat) (x:AV),cs[k]? =some x→∃u,arr[k]? =some u∧R L w (MM L H' Av) x u)∧
        ∀L' w' M',L' id=some ⟨w.heap.size,0,cp,0⟩→R L' w' M' r u):E5 P o ev H id r (some cs):=by
  intro H' hH L Av w ρ hs ZW hL hi hr;obtain⟨u,arr,e,cp,h1,h2,h3,h4,h5⟩:=h H' hH L Av w ρ hs hr;obtain⟨h6,h7⟩:=I5 hs hL hi arr e cp cs h2 h3 h4;exact .CJ h1 ⟨r,_,_,⟨rfl,rfl⟩,fun i hi=>C3 _ _ hi,h6,h7,h5 _ _ _ (BR _ _ _)⟩
def EI:Value→AV
  | .int k n=> .i k n
  | .bool b=> .b b
  | .string s=> .s s
  | .slice none 0 0=> .nl
  |x=> .c x
def XF:Value→AV
  | .agg cs=> .g (cs.toList.map EI)
  |x=>EI x
theorem R.EI(L:LM)(w:World)(M:Nat→Prop)(x:Value):R L w M (EI x) x:=by
  unfold Go.Proofs.YtghmeeifjeafmaaGreat.EI;split<;>constructor
theorem R.XF(L:LM)(w:World)(M:Nat→Prop)(x:Value):R L w M (XF x) x:=by
  unfold Go.Proofs.YtghmeeifjeafmaaGreat.XF;split
  · rename_i cs;refine .g _ _ (by simp) ?_;intro k x hk;simp only[List.getElem?_map,Option.map_eq_some_iff,Array.getElem?_toList]at hk;obtain⟨u,h1,h2⟩:=hk;rw[←h2];simp[h1,R.EI]
  exact R.EI _ _ _ _
def Dc(c:Bool)(a b:Prop):Prop:=match c with
  |true=>a
  |false=>b
theorem Ao{n:Nat}{a b:Prop}(h:n=1):Dc (n==1) a b=a:=by subst h;rfl
theorem Ap{n:Nat}{a b:Prop}(h:¬n=1):Dc (n==1) a b=b:=by
  have:(n==1)=false:=by simp[h]
  rw[this];rfl
structure St where
  t:List AV
  H:HP
  nx:Nat
def BK(t:List AV):Operand→AV
  | .tmp n=>t.getD n .j
  | .const x=>XF x
  | .global g=> .c (.pointer (some ⟨g,0,none⟩))
  | .func f=> .f f []
end Go.Proofs.YtghmeeifjeafmaaGreat
