import Derived.Lib.SliceRun
import Derived.Test.YtgknbnkmilddhaaGreatZ00
set_option linter.unusedVariables false
set_option linter.unusedSimpArgs false

namespace Go.Proofs.YtgknbnkmilddhaaGreat
abbrev CA:=TypeId->Option TE
def IB(P:Program)(Γ:CA):Prop:=∀ty x,Γ ty=some x->E6 P ty x
def one:AV->Bool
  | .i _ _| .b _| .s _| .nl| .v _ _| .p _ _| .h _ _ _| .hs _ _ _ _| .q _ _| .m _=>true
  | .c (.agg _)| .c (.tuple _)=>false
  | .c _=>true
  | .j| .g _| .t _| .f _ _| .it _=>false
def CN:AV->List AV
  | .g cs=>cs
  |x=>[x]
def fU:AV->Bool
  | .g cs=>cs.all one
  |x=>one x
theorem IK{L:LM}{w:World}{M:Nat->Prop}{x:AV}{u:Value}(h:R L w M x u)(ho:one x=true):u.cells=#[u]/\u.oneCell'=true:=by
  cases h<;>simp[one]at ho<;>try exact⟨rfl,rfl⟩
  cases u<;>simp at ho<;>exact⟨rfl,rfl⟩
theorem WA{L:LM}{w:World}{M:Nat->Prop}{x:AV}{u:Value}(h:R L w M x u)(ho:fU x=true):
    u.cells.size=(CN x).length/\∀(k:Nat) (y:AV),(CN x)[k]? =some y->∃c,u.cells[k]? =some c/\R L w M y c/\c.oneCell'=true:=by
  by_cases hx:∃cs,x= .g cs
  · obtain⟨cs,rfl⟩:=hx;cases h with
    | g _ us hs hr=>
      refine⟨hs,?_⟩;intro k y hk;have KH:k<us.size:=by rw[hs];exact(List.getElem?_eq_some_iff.1 hk).1
      have h1:=hr k y hk;refine⟨us[k],by simp[Value.cells,KH],by simpa[KH]using h1,?_⟩;simp only[fU,List.all_eq_true]at ho;exact(IK (by simpa[KH]using h1) (ho y (List.mem_of_getElem? hk))).2
  have h1:CN x=[x]:=by cases x<;>first|rfl|exact absurd ⟨_,rfl⟩ hx
  have h2:fU x=one x:=by cases x<;>first|rfl|exact absurd ⟨_,rfl⟩ hx
  rw[h2]at ho;obtain⟨h3,h4⟩:=IK h ho;rw[h1,h3];refine⟨rfl,?_⟩;intro k y hk;match k,hk with
  |0,hk=>simp at hk;subst hk;exact⟨u,rfl,h,h4⟩
  |k+1,hk=>simp at hk
def Mi(Γ:CA)(op:BinOp)(ty:TypeId)(xs ys:List AV)(k:AV->Prop):Prop:=
  match op,xs,ys with
  | .eql,[.i .i64 a,.i .i64 b,.i .i64 c,.i .i64 d],[.i .i64 a',.i .i64 b',.i .i64 c',.i .i64 d']=>(∃e,Γ ty=some e/\e.eq4=true)/\k (.b (decide (a=a'/\b=b'/\c=c'/\d=d')))
  |_,_,_=>False
def bop(Γ:CA)(op:BinOp)(ty:TypeId)(x y:AV)(k:AV->Prop):Prop:=
  match x,y with
  | .i ka a,.i kb b=>match op with
    | .add=>ka=kb/\k (.i ka (ka.wrap (a+b)))
    | .sub=>ka=kb/\k (.i ka (ka.wrap (a-b)))
    | .mul=>ka=kb/\k (.i ka (ka.wrap (a*b)))
    | .quo=>ka=kb/\b≠0/\k (.i ka (ka.wrap (a.tdiv b)))
    | .rem=>ka=kb/\b≠0/\k (.i ka (a.tmod b))
    | .eql=>ka=kb/\k (.b (a==b))
    | .neq=>ka=kb/\k (.b (a !=b))
    | .lss=>ka=kb/\k (.b (decide (a<b)))
    | .leq=>ka=kb/\k (.b (decide (a<=b)))
    | .gtr=>ka=kb/\k (.b (decide (a>b)))
    | .geq=>ka=kb/\k (.b (decide (a>=b)))
    | .shl=>0<=b/\k (.i ka (ka.wrap (a*2^(min b.toNat ka.bits))))
    | .shr=>0<=b/\k (.i ka (a.fdiv (2^(min b.toNat ka.bits))))
    | .and=>ka=kb/\k (.i ka (ka.wrap (BitVec.ofInt ka.bits a &&& BitVec.ofInt ka.bits b).toNat))
    | .or=>ka=kb/\k (.i ka (ka.wrap (BitVec.ofInt ka.bits a|||BitVec.ofInt ka.bits b).toNat))
    | .andNot=>ka=kb/\k (.i ka (ka.wrap (BitVec.ofInt ka.bits a &&& ~~~BitVec.ofInt ka.bits b).toNat))
    |_=>False
  | .s a,.s b=>match op with
    | .eql=>k (.b (a.toList==b.toList))
    | .neq=>k (.b (!(a.toList==b.toList)))
    | .add=>(a.size+b.size:Int)<=9223372036854775807/\k (.s (a++b))
    |_=>False
  | .b a,.b b=>(∃e,Γ ty=some e/\e.d= .bool)/\match op with
    | .eql=>k (.b (a==b))
    | .neq=>k (.b (!(a==b)))
    |_=>False
  | .nl,.nl=>(∃e el,Γ ty=some e/\e.d= .slice el)/\match op with| .eql=>k (.b true)| .neq=>k (.b false)|_=>False
  | .h _ _ _,.nl=>(∃e el,Γ ty=some e/\e.d= .slice el)/\match op with| .eql=>k (.b false)| .neq=>k (.b true)|_=>False
  | .v _ cs,.nl=>cs≠ []/\(∃e el,Γ ty=some e/\e.d= .slice el)/\match op with| .eql=>k (.b false)| .neq=>k (.b true)|_=>False
  | .g xs,.g ys=>Mi Γ op ty xs ys k
  |_,_=>False
def uop(op:UnOp)(x:AV)(k:AV->Prop):Prop:=
  match op,x with
  | .neg,.i ka a=>k (.i ka (ka.wrap (0-a)))
  | .not,.b x=>k (.b (!x))
  |_,_=>False
def cop(Γ:CA)(src dst:TypeId)(x:AV)(k:AV->Prop):Prop:=
  match x,Γ src,Γ dst with
  | .i _ n,some _,some e=>match e.d with| .int kd=>k (.i kd (kd.wrap n))|_=>False
  |_,_,_=>False
def Bj(e:TE)(o:Nat)(cs:List AV)(k:AV->Prop):Prop:=
  if e.agg=true then o+e.size<=cs.length/\k (.g ((cs.drop o).take e.size))else o<cs.length/\k (cs.getD o .j)
def Mj(Γ:CA)(H:HP)(ty:TypeId)(x:AV)(k:AV->Prop):Prop:=
  match Γ ty,x with
  |some e,.p o cs=>Bj e o cs k
  |some e,.q id o=>S5 (H id) λcs=>Bj e o cs k
  |_,_=>False
def fop(Γ:CA)(ty:TypeId)(f:Nat)(k:Nat->Prop):Prop:=
  match Γ ty with
  | some e=>match e.d with
    | .struct fs=>match fs[f]? with
      | some (ft,off)=>match Γ ft with
        |some fe=>fe.size≠0/\k off
        |none=>False
      |none=>False
    |_=>False
  |none=>False
def iop(Γ:CA)(ty:TypeId)(x i:AV)(k:AV->Prop):Prop:=
  match Γ ty with
  | some e=>match e.d with
    | .slice el=>match Γ el with
      | some ee=>match x,i with
        | .v n cs,.i _ a=>0<=a/\a<n/\k (.p (a.toNat*ee.size) cs)
        | .h id o n,.i _ a=>0<=a/\a<n/\k (.q id (o+a.toNat*ee.size))
        | .hs _ id o n,.i _ a=>0<=a/\a<n/\k (.q id (o+a.toNat*ee.size))
        |_,_=>False
      |none=>False
    |_=>False
  |none=>False
def eop(x:AV)(n:Nat)(k:AV->Prop):Prop:=
  match x with
  | .t vs=>match vs[n]? with|some y=>k y|none=>False
  |_=>False
def Bk(Γ:CA)(ty:TypeId)(x:AV)(f:Nat)(k:AV->Prop):Prop:=
  match Γ ty with
  | some e=>match e.d with
    | .struct fs=>match fs[f]? with
      | some (ft,off)=>match Γ ft with
        | some e2=>e2.agg=false/\match x with
          | .g cs=>match cs[off]? with|some y=>k y|none=>False
          |_=>False
        |none=>False
      |none=>False
    |_=>False
  |none=>False
def nop(x:AV)(k:AV->Prop):Prop:=
  match x with
  | .p _ _| .q _ _=>k x
  |_=>False
def XX(Γ:CA)(ty:TypeId)(x:AV)(k:AV->Prop):Prop:=
  match Γ ty with
  | some e=>match e.d,x with
    | .slice _,.v n _=>k (.i .i64 n)
    | .slice _,.h _ _ n=>k (.i .i64 n)
    | .slice _,.hs _ _ _ n=>k (.i .i64 n)
    | .slice _,.nl=>k (.i .i64 0)
    | .str,.s x=>k (.i .i64 x.size)
    |_,_=>False
  |none=>False
def mR(Γ:CA)(ty:TypeId)(x:AV)(k:AV->Prop):Prop:=
  match Γ ty with
  | some e=>match e.d,x with
    | .slice _,.nl=>k (.i .i64 0)
    |_,_=>False
  |none=>False
def Bl(x y:AV)(k:AV->Prop):Prop:=
  match x,y with
  | .i k1 a,.i _ b=>k (.i k1 (if b<a then b else a))
  |_,_=>False
def Bm(x y:AV)(k:AV->Prop):Prop:=
  match x,y with
  | .i k1 a,.i _ b=>k (.i k1 (if b>a then b else a))
  |_,_=>False
def JJ:List AV->Nat->List AV->List AV
  |cs,_,[]=>cs
  |cs,o,x::xs=>JJ (cs.set o x) (o+1) xs
def MY(place:Nat->Option (Nat×Nat)):List AV->List (Nat×AV)->Option (List AV)
  |cs,[]=>some cs
  | cs,(i,x)::rest=>match place i with
    |none=>none
    |some (off,size)=>if (CN x).length≠size\/fU x=false\/off+(CN x).length>cs.length then none else MY place (JJ cs off (CN x)) rest
def jE:Option AV->Option (Option Int)
  |none=>some none
  |some (.i _ n)=>some (some n)
  |some _=>none
def sop(Γ:CA)(ty:TypeId)(x:AV)(lo hi:Option AV)(k:AV->Prop):Prop:=
  match Γ ty with
  | some e=>match e.d with
    | .slice el=>match Γ el with
      | some ee=>match x,jE lo,jE hi with
        | .v n cs,some l,some h=>0<=l.getD 0/\l.getD 0<=h.getD n/\h.getD n<=n/\
            k (.v ((h.getD n).toNat-(l.getD 0).toNat) ((cs.drop ((l.getD 0).toNat*ee.size)).take (((h.getD n).toNat-(l.getD 0).toNat)*ee.size)))
        | .h id o n,some l,some h=>ee.size=1/\0<=l.getD 0/\l.getD 0<=h.getD n/\h.getD n<=n/\k (.h id (o+(l.getD 0).toNat) ((h.getD n).toNat-(l.getD 0).toNat))
        | .nl,some l,some h=>l.getD 0=0/\h.getD 0=0/\k .nl
        |_,_,_=>False
      |none=>False
    | .str=>match x,jE lo,jE hi with
      | .s b,some l,some h=>0<=l.getD 0/\l.getD 0<=h.getD b.size/\h.getD b.size<=b.size/\k (.s (b.extract (l.getD 0).toNat (h.getD b.size).toNat))
      |_,_,_=>False
    |_=>False
  |none=>False
end Go.Proofs.YtgknbnkmilddhaaGreat

namespace Go.Proofs.YtgknbnkmilddhaaGreat
theorem R.DV{L:LM}{w:World}{M:Nat->Prop}{k:IntKind}{n:Int}{u:Value}(h:R L w M (.i k n) u):u= .int k n:=by cases h;rfl
theorem R.XY{L:LM}{w:World}{M:Nat->Prop}{x:Bool}{u:Value}(h:R L w M (.b x) u):u= .bool x:=by cases h;rfl
theorem R.U6{L:LM}{w:World}{M:Nat->Prop}{x:ByteArray}{u:Value}(h:R L w M (.s x) u):u= .string x:=by cases h;rfl
theorem R.EV{L:LM}{w:World}{M:Nat->Prop}{u:Value}(h:R L w M .nl u):u= .slice none 0 0:=by cases h;rfl
set_option maxHeartbeats 1000000 in
theorem A3T{L:LM}{w:World}{M:Nat->Prop}{a b c d:Int}{u:Value}(h:R L w M (.g [.i .i64 a,.i .i64 b,.i .i64 c,.i .i64 d]) u):u= .agg #[.int .i64 a,.int .i64 b,.int .i64 c,.int .i64 d]:=by
  cases h with
  | g _ us hs hr=>
    congr 1
    have h0:=(hr 0 _ rfl).DV;have h1:=(hr 1 _ rfl).DV;have h2:=(hr 2 _ rfl).DV;have h3:=(hr 3 _ rfl).DV;simp only[List.length_cons,List.length_nil]at hs;apply Array.ext
    · simpa using hs
    intro i hi _;have hg:us.getD i undef=us[i]:=by simp[hi]
    match i,hi with
    |0,hi=>rw[<-hg];exact h0
    |1,hi=>rw[<-hg];exact h1
    |2,hi=>rw[<-hg];exact h2
    |3,hi=>rw[<-hg];exact h3
    |i+4,hi=>omega
theorem Mk{P:Program}{ty:TypeId}(h:Wg P ty=true):P.stoodInHeld ty=false/\P.eqGuardType P.depth ty=false/\∃f0 f1 f2 f3:Field,P.underlying ty=some (.struct #[f0,f1,f2,f3])/\
    (f0.name≠ "_" /\f1.name≠ "_" /\f2.name≠ "_" /\f3.name≠ "_")/\(f0.offset=0/\f1.offset=1/\f2.offset=2/\f3.offset=3)/\
    (P.underlying f0.type=some (.int .i64)/\P.underlying f1.type=some (.int .i64)/\P.underlying f2.type=some (.int .i64)/\P.underlying f3.type=some (.int .i64)):=by
  unfold Wg at h;simp only[Bool.and_eq_true,Bool.not_eq_true']at h;obtain⟨⟨h1,h2⟩,h3⟩:=h;refine⟨h1,h2,?_⟩;split at h3
  · rename_i fs fW;split at h3
    · rename_i a b c d hl;have e:fs=#[a,b,c,d]:=by apply Array.ext';simpa using hl
      subst e;have hu:∀f:Field,(match P.underlying f.type with|some (.int .i64)=>true|_=>false)=true->P.underlying f.type=some (.int .i64):=by
        intro f hf;split at hf
        · assumption
        cases hf
      simp only[List.all_cons,List.all_nil,Bool.and_true,Bool.and_eq_true,bne_iff_ne,beq_iff_eq]at h3;obtain⟨⟨⟨a1,a2⟩,a3⟩,⟨⟨b1,b2⟩,b3⟩,⟨⟨c1,c2⟩,c3⟩,⟨d1,d2⟩,d3⟩:=h3;exact⟨a,b,c,d,fW,⟨a1,b1,c1,d1⟩,⟨a2,b2,c2,d2⟩,hu _ a3,hu _ b3,hu _ c3,hu _ d3⟩
    cases h3
  cases h3
theorem Wn{P:Program}{Γ:CA}(hG:IB P Γ){op:BinOp}{ty:TypeId}{xs ys:List AV}{k:AV->Prop}(h:Mi Γ op ty xs ys k)(xo yo:Operand):
    ∃ r,k r/\∀(L:LM) (w:World) (M:Nat->Prop) (u v:Value),R L w M (.g xs) u->R L w M (.g ys) v->
      ∃z,(do eqGuard op ty xo yo u v;binOp op ty u v:Sem Value).run P w= .ok z w/\R L w M r z:=by
  unfold Mi at h;split at h
  · rename_i a b c d a' b' c' d';obtain⟨⟨e,he,h4⟩,h⟩:=h;refine⟨_,h,λL w M u v hu hv=>⟨_,?_,.b _⟩⟩;obtain⟨q1,q2,f0,f1,f2,f3,q3,⟨n0,n1,n2,n3⟩,⟨o0,o1,o2,o3⟩,u0,u1,u2,u3⟩:=Mk ((hG ty e he).eq4 h4);rw[A3T hu,A3T hv];have r0:(underlying f0.type).run P w= .ok (.int .i64) w:=by simp[go_sem,underlying,u0]
    have r1:(underlying f1.type).run P w= .ok (.int .i64) w:=by simp[go_sem,underlying,u1]
    have r2:(underlying f2.type).run P w= .ok (.int .i64) w:=by simp[go_sem,underlying,u2]
    have r3:(underlying f3.type).run P w= .ok (.int .i64) w:=by simp[go_sem,underlying,u3]
    have rt:(underlying ty).run P w= .ok (.struct #[f0,f1,f2,f3]) w:=by simp[go_sem,underlying,q3]
    have e0:∀(d:Nat) (x y:Int),(Op.equalIn (d+1) f0.type (.int .i64 x) (.int .i64 y)).run P w= .ok (x==y) w:=by intro d x y;simp[Op.equalIn,r0]
    have e1:∀(d:Nat) (x y:Int),(Op.equalIn (d+1) f1.type (.int .i64 x) (.int .i64 y)).run P w= .ok (x==y) w:=by intro d x y;simp[Op.equalIn,r1]
    have e2:∀(d:Nat) (x y:Int),(Op.equalIn (d+1) f2.type (.int .i64 x) (.int .i64 y)).run P w= .ok (x==y) w:=by intro d x y;simp[Op.equalIn,r2]
    have e3:∀(d:Nat) (x y:Int),(Op.equalIn (d+1) f3.type (.int .i64 x) (.int .i64 y)).run P w= .ok (x==y) w:=by intro d x y;simp[Op.equalIn,r3]
    have p0:∀z0 z1 z2 z3:Value,(part f0.type #[z0,z1,z2,z3] f0.offset).run P w= .ok z0 w:=by intro z0 z1 z2 z3;simp[part,isAgg,r0,o0]
    have p1:∀z0 z1 z2 z3:Value,(part f1.type #[z0,z1,z2,z3] f1.offset).run P w= .ok z1 w:=by intro z0 z1 z2 z3;simp[part,isAgg,r1,o1]
    have p2:∀z0 z1 z2 z3:Value,(part f2.type #[z0,z1,z2,z3] f2.offset).run P w= .ok z2 w:=by intro z0 z1 z2 z3;simp[part,isAgg,r2,o2]
    have p3:∀z0 z1 z2 z3:Value,(part f3.type #[z0,z1,z2,z3] f3.offset).run P w= .ok z3 w:=by intro z0 z1 z2 z3;simp[part,isAgg,r3,o3]
    have hq:∀dd:Nat,(Op.equalIn (dd+1+1) ty (.agg #[.int .i64 a,.int .i64 b,.int .i64 c,.int .i64 d]) (.agg #[.int .i64 a',.int .i64 b',.int .i64 c',.int .i64 d'])).run P w= .ok (decide (a=a'/\b=b'/\c=c'/\d=d')) w:=by
      intro dd;rw[Op.equalIn.eq_2];simp[rt,q1,n0,n1,n2,n3,e0,e1,e2,e3,p0,p1,p2,p3];repeat' split
      all_goals simp_all
    have:=hq 9998;simp[eqGuard,q2,binOp,Op.equal,Op.maxDepth,this]
  exact h.elim
theorem tX{P:Program}{Γ:CA}(hG:IB P Γ){op:BinOp}{ty:TypeId}{x y:AV}{k:AV->Prop}(h:bop Γ op ty x y k)(xo yo:Operand):
    ∃ r,k r/\∀(L:LM) (w:World) (M:Nat->Prop) (u v:Value),R L w M x u->R L w M y v->
      ∃z,(do eqGuard op ty xo yo u v;binOp op ty u v:Sem Value).run P w= .ok z w/\R L w M r z:=by
  unfold bop at h;split at h
  · rename_i ka a kb b;cases op<;>simp only at h<;>first
      |exact h.elim
      | (obtain⟨h1,h2⟩:=h
         have DZ:¬b<0:=A0;refine⟨_,h2,λL w M u v hu hv=>?_⟩;rw[hu.DV,hv.DV];refine⟨_,?_,.i _ _⟩
         (simp[eqGuard,binOp,Op.shift,DZ];done))
      | (obtain⟨rfl,h1,h2⟩:=h
         refine⟨_,h2,λL w M u v hu hv=>?_⟩;rw[hu.DV,hv.DV];refine⟨_,?_,.i _ _⟩
         (simp[eqGuard,binOp,Op.intDiv,h1];done))
      | (obtain⟨rfl,h⟩:=h
         refine⟨_,h,λL w M u v hu hv=>?_⟩;rw[hu.DV,hv.DV];first
          |(refine⟨_,?_,.i _ _⟩;simp[eqGuard,binOp,Op.intArith,Op.intCmp];done)
          |(refine⟨_,?_,.b _⟩;simp[eqGuard,binOp,Op.intArith,Op.intCmp];done)
          |(refine⟨_,?_,.i _ _⟩;simp[eqGuard,binOp,Op.intBits];done))
  · rename_i a b;cases op<;>simp only at h<;>first
      |exact h.elim
      | (obtain⟨h1,h2⟩:=h
         refine⟨_,h2,λL w M u v hu hv=>?_⟩;rw[hu.U6,hv.U6];have DZ:¬((a.size+b.size:Nat):Int)>IntKind.i64.max:=by
           have:IntKind.i64.max=9223372036854775807:=rfl;rw[this];push_cast;omega
         (refine⟨_,?_,.s _⟩;simp[eqGuard,binOp,Op.stringOp];omega))
      | (refine⟨_,h,λL w M u v hu hv=>?_⟩
         rw[hu.U6,hv.U6]
         (refine⟨_,?_,.b _⟩;simp[eqGuard,binOp,Op.stringOp];done))
  · rename_i a b;obtain⟨⟨e,he,hd⟩,h⟩:=h;obtain⟨dd,U7,XZ,hr⟩:=(hG ty e he).D1;have:=Mh (U7.trans hd);subst this;have hq:∀w (d:Nat),(Op.equalIn (d+1) ty (.bool a) (.bool b)).run P w= .ok (a==b) w:=by
      intro w d;simp[Op.equalIn,hr w]
    cases op<;>simp only at h<;>first
      |exact h.elim
      | (refine⟨_,h,λL w M u v hu hv=>?_⟩
         rw[hu.XY,hv.XY]
         (refine⟨_,?_,.b _⟩;simp[eqGuard,binOp,Op.equal,Op.maxDepth,hq w 9999];done))
  · obtain⟨⟨e,el,he,hd⟩,h⟩:=h;have JF:=((hG ty e he).slice hd).1;cases op<;>simp only at h<;>first
      |exact h.elim
      | (refine⟨_,h,λL w M u v hu hv=>?_⟩
         rw[hu.EV,hv.EV];first
          |(refine⟨_,?_,.b _⟩;simp[eqGuard,Lib.run_eql_slice_nil w ty el _ _ _ _ _ JF];done)
          |(refine⟨_,?_,.b _⟩;simp[eqGuard,Go.run_neq_slice_nil_any w ty el _ _ _ _ _ JF];done))
  · obtain⟨⟨e,el,he,hd⟩,h⟩:=h;have JF:=((hG ty e he).slice hd).1;cases op<;>simp only at h<;>first
      |exact h.elim
      | (refine⟨_,h,λL w M u v hu hv=>?_⟩
         rw[hv.EV];cases hu;first
          |(refine⟨_,?_,.b _⟩;simp[eqGuard,Lib.run_eql_slice_nil w ty el _ _ _ _ _ JF];done)
          |(refine⟨_,?_,.b _⟩;simp[eqGuard,Go.run_neq_slice_nil_any w ty el _ _ _ _ _ JF];done))
  · obtain⟨AQ,⟨e,el,he,hd⟩,h⟩:=h;have JF:=((hG ty e he).slice hd).1;cases op<;>simp only at h<;>first
      |exact h.elim
      | (refine⟨_,h,λL w M u v hu hv=>?_⟩
         rw[hv.EV];cases hu with
         |v0=>exact absurd rfl AQ
         |v=>
          first
          |(refine⟨_,?_,.b _⟩;simp[eqGuard,Lib.run_eql_slice_nil w ty el _ _ _ _ _ JF];done)
          |(refine⟨_,?_,.b _⟩;simp[eqGuard,Go.run_neq_slice_nil_any w ty el _ _ _ _ _ JF];done))
  · exact Wn hG h xo yo
  exact h.elim
theorem Ml{P:Program}{op:UnOp}{x:AV}{k:AV->Prop}(h:uop op x k):
    ∃r,k r/\∀(L:LM) (w:World) (M:Nat->Prop) (u:Value),R L w M x u->∃z,(Op.unary op u).run P w= .ok z w/\R L w M r z:=by
  unfold uop at h;split at h
  · refine⟨_,h,λL w M u hu=>?_⟩;rw[hu.DV]
    (refine⟨_,?_,.i _ _⟩;simp[Op.unary,Op.intArith];done)
  · refine⟨_,h,λL w M u hu=>?_⟩;rw[hu.XY]
    (refine⟨_,?_,.b _⟩;simp[Op.unary];done)
  exact h.elim
theorem tY{P:Program}{Γ:CA}(hG:IB P Γ){src dst:TypeId}{x:AV}{k:AV->Prop}(h:cop Γ src dst x k):
    ∃r,k r/\∀(L:LM) (w:World) (M:Nat->Prop) (u:Value),R L w M x u->∃z,(convert src dst u).run P w= .ok z w/\R L w M r z:=by
  unfold cop at h;split at h
  · rename_i ka n es ed hs hd;split at h
    · rename_i kd he;refine⟨_,h,λL w M u hu=>?_⟩;rw[hu.DV];obtain⟨d1,_,_,h1⟩:=(hG src es hs).D1;obtain⟨d2,h21,_,h2⟩:=(hG dst ed hd).D1;have:=jC (h21.trans he);subst this;refine⟨_,?_,.i _ _⟩;unfold convert;simp only[Sem.run_bind,h1 w,h2 w,Result.andThen_ok];simp[Conv.intToInt]
    exact h.elim
  exact h.elim
theorem run_loadCells{P:Program}{w:World}{b off:Nat}{us:Nat->Value}:∀(n i:Nat) (acc:Array Value),(∀k,k<n->w.cell? ⟨b,off+(i+k),none⟩=some (us (i+k)))->
    (loadCellsFrom ⟨b,off,none⟩ i n acc).run P w= .ok (acc++((List.range' i n).map us).toArray) w:=by
  intro n;induction n with
  |zero=>intro i acc _;simp[loadCellsFrom]
  | succ n ih=>
    intro i acc h;have h0:=h 0 A0;have ha:(Addr.add ⟨b,off,none⟩ i)=⟨b,off+i,none⟩:=by unfold Addr.add;split<;>simp_all
    simp only[Nat.add_zero]at h0;have ih':=ih (i+1) (acc.push (us i)) (λk hk=>by have:=h (k+1) A0;rwa [show i+1+k=i+(k+1) by omega]);simp only[loadCellsFrom,Sem.run_bind,run_load,ha,h0,Result.andThen_ok];rw[ih'];simp[List.range'_succ]
theorem cell_of{w:World}{b o:Nat}{arr:Array Value}{e:TypeId}{f:Nat×Nat}{u:Value}(h:w.heap[b]? =some (.cells arr e f))(hu:arr[o]? =some u):w.cell? ⟨b,o,none⟩=some u:=by
  simp[World.cell?,h,hu]
theorem ZV{P:Program}{e:TE}{ty:TypeId}(hT:E6 P ty e){o:Nat}{cs:List AV}{k:AV->Prop}(h:Bj e o cs k):
    ∃ r,k r/\∀(L:LM) (w:World) (M:Nat->Prop) (b off:Nat) (arr:Array Value) (et:TypeId) (f:Nat×Nat),w.heap[b]? =some (.cells arr et f)->
      (∀(j:Nat) (x:AV),cs[j]? =some x->∃u,arr[off+j]? =some u/\R L w M x u)->∃z,(Instr.loadAt ty (.pointer (some ⟨b,off+o,none⟩))).run P w= .ok z w/\R L w M r z:=by
  unfold Bj at h;split at h
  · rename_i ha;obtain⟨h1,h2⟩:=h;refine⟨_,h2,λL w M b off arr et f hb hc=>?_⟩;let us:Nat->Value:=λj=>arr.getD (off+o+j) undef
    have F7:∀j,j<e.size->w.cell? ⟨b,off+o+(0+j),none⟩=some (us (0+j)):=by
      intro j hj;have C4:o+j<cs.length:=A0;obtain⟨u,h3,h4⟩:=hc (o+j) cs[o+j] (List.getElem?_eq_getElem C4);have h5:arr[off+o+j]? =some u:=by rw[show off+o+j=off+(o+j) by omega];exact h3
      rw[Nat.zero_add];exact cell_of hb (by rw[h5];simp[us,h5])
    refine⟨.agg ((List.range' 0 e.size).map us).toArray,?_,?_⟩
    · have h3:=hT.jD w;have h4:=hT.CW w;rw[ha]at h3;have h5:=run_loadCells (P:=P) (w:=w) (b:=b) (off:=off+o) (us:=us) e.size 0 #[] F7;simp only[Instr.loadAt,Instr.sureAddr,Sem.run_bind,Sem.run_pure,Result.andThen_ok,loadVar,h3,if_true,h4,loadCells,h5];simp
    refine .g _ _ (by simp;omega) ?_;intro j x hj;simp only[List.getElem?_take,List.getElem?_drop]at hj;split at hj
    · rename_i C4;obtain⟨u,h6,h7⟩:=hc (o+j) x hj;have h8:arr[off+o+j]? =some u:=by rw[show off+o+j=off+(o+j) by omega];exact h6
      have:(((List.range' 0 e.size).map us).toArray).getD j undef=u:=by
        simp[C4,us,h8]
      rw[this];exact h7
    cases hj
  rename_i ha;obtain⟨h1,h2⟩:=h;refine⟨_,h2,λL w M b off arr et f hb hc=>?_⟩;have hg:cs[o]? =some (cs.getD o .j):=by simp[List.getElem?_eq_getElem h1]
  obtain⟨u,h3,h4⟩:=hc o _ hg;refine⟨u,?_,h4⟩;have h5:=hT.jD w;have h6:e.agg=false:=by simpa using ha
  rw[h6]at h5;simp only[Instr.loadAt,Instr.sureAddr,Sem.run_bind,Sem.run_pure,Result.andThen_ok,loadVar,h5,Bool.false_eq_true,if_false,run_load,cell_of hb h3]
theorem R.Bn{L:LM}{w:World}{M:Nat->Prop}{o:Nat}{cs:List AV}{u:Value}(h:R L w M (.p o cs) u):
    ∃b off arr e f,u= .pointer (some ⟨b,off+o,none⟩)/\¬M b/\w.heap[b]? =some (.cells arr e f)/\(∀(j:Nat) (x:AV),cs[j]? =some x->∃u,arr[off+j]? =some u/\R L w M x u):=by
  cases h with
  | p _ _ b off arr e f us hM hb hu hr=>
    exact⟨b,off,arr,e,f,rfl,hM,hb,λj x hj=>⟨us j,hu j (List.getElem?_eq_some_iff.1 hj).1,hr j x hj⟩⟩
theorem R.gZ{L:LM}{w:World}{M:Nat->Prop}{id o:Nat}{u:Value}(h:R L w M (.q id o) u):∃l,(L id=some l/\l.kd=0)/\u= .pointer (some ⟨l.CP,l.off+o,none⟩):=by
  cases h with|q _ _ l hl h0=>exact⟨l,⟨hl,h0⟩,rfl⟩
theorem Wo{P:Program}{Γ:CA}(hG:IB P Γ){o:Oper}{ev:Operand->AV}{H:HP}{id:Nat}{ty:TypeId}{x:Operand}(ho:o.op= .load ty x){k:AV->Prop}(h:Mj Γ H ty (ev x) k):
    ∃r,k r/\EZ P o ev H id r none:=by
  unfold Mj at h;split at h
  · rename_i e oo cs he hx;obtain⟨r,hk,hr⟩:=ZV (hG ty e he) h;refine⟨r,hk,EZ.pure λH' hH L Av w ρ hs B0=>?_⟩;have hu:=B0 x (by simp[ho,Op.operands]);rw[hx]at hu;obtain⟨b,off,arr,et,f,h1,_,h2,h3⟩:=hu.Bn;obtain⟨z,h4,h5⟩:=hr L w (MM L H' Av) b off arr et f h2 h3;exact⟨z,by simp[execOp,ho,h1,h4],h5⟩
  · rename_i e id' oo he hx;obtain⟨cs,P6,h⟩:=h;obtain⟨r,hk,hr⟩:=ZV (hG ty e he) h;refine⟨r,hk,EZ.pure λH' hH L Av w ρ hs B0=>?_⟩;have hu:=B0 x (by simp[ho,Op.operands]);rw[hx]at hu;obtain⟨l,⟨hl,h0⟩,h1⟩:=hu.gZ;obtain⟨l',I9,D0⟩:=hs.node id' cs (hH _ _ P6);rw[hl]at I9;cases I9;obtain⟨arr,et,h2,_,_,h3⟩:=D0.ex h0;obtain⟨z,h4,h5⟩:=hr L w (MM L H' Av) l.CP l.off arr et _ h2 h3;exact⟨z,by simp[execOp,ho,h1,h4],h5⟩
  exact h.elim
theorem HO(b off n:Nat):Addr.add ⟨b,off,none⟩ n=⟨b,off+n,none⟩:=by unfold Addr.add;split<;>simp_all
def qO(x:AV)(n:Nat)(k:AV->Prop):Prop:=
  match x with
  | .p o cs=>k (.p (o+n) cs)
  | .q id o=>k (.q id (o+n))
  |_=>False
theorem Bo{x:AV}{n:Nat}{k:AV->Prop}(h:qO x n k):∃r,k r/\∀(L:LM) (w:World) (M:Nat->Prop) (u:Value),R L w M x u->
    ∃b off,u= .pointer (some ⟨b,off,none⟩)/\R L w M r (.pointer (some ⟨b,off+n,none⟩)):=by
  unfold qO at h;split at h
  · refine⟨_,h,λL w M u hu=>?_⟩;cases hu with
    | p o cs b off arr e f us hM hb hu hr=>
      exact⟨_,_,rfl,by rw[Nat.add_assoc];exact .p _ _ b off arr e f us hM hb hu hr⟩
  · refine⟨_,h,λL w M u hu=>?_⟩;cases hu with
    |q id o l hl h0=>exact⟨_,_,rfl,by rw[Nat.add_assoc];exact .q _ _ l hl h0⟩
  exact h.elim
theorem Wp{P:Program}{Γ:CA}(hG:IB P Γ){o:Oper}{ev:Operand->AV}{H:HP}{id:Nat}{ty:TypeId}{x:Operand}{f:Nat}(ho:o.op= .fieldAddr ty x f){k:AV->Prop}
    (h:fop Γ ty f λoff=>qO (ev x) off k):∃r,k r/\EZ P o ev H id r none:=by
  unfold fop at h;split at h
  · rename_i e he;split at h
    · rename_i fs hd;split at h
      · rename_i ft A9U hf;split at h
        · rename_i fe hfe;obtain⟨h0,h⟩:=h;obtain⟨r,hk,hr⟩:=Bo h;refine⟨r,hk,EZ.pure λH' hH L Av w ρ hs B0=>?_⟩;have hu:=B0 x (by simp[ho,Op.operands]);obtain⟨b,off,h1,h2⟩:=hr _ _ _ _ hu;obtain⟨Wq,fW,h3⟩:=(hG ty e he).struct hd;have h4:=(hG ft fe hfe).CW w;rw[<-fW,List.getElem?_map,Option.map_eq_some_iff]at hf;obtain⟨fd,hfd,A3U⟩:=hf;have A9V:Wq[f]? =some fd:=by simpa using hfd
          have e1:fd.type=ft:=congrArg Prod.fst A3U;have e2:fd.offset=A9U:=congrArg Prod.snd A3U;refine⟨_,?_,h2⟩;simp only[execOp,ho,Instr.fieldAt,Instr.sureAddr,h1,Sem.run_bind,h3 w,Result.andThen_ok,A9V,Sem.run_pure,fieldPlace,e1,h4];simp[h0,HO,e2]
        exact h.elim
      exact h.elim
    exact h.elim
  exact h.elim
theorem Wr{P:Program}{Γ:CA}(hG:IB P Γ){o:Oper}{ev:Operand->AV}{H:HP}{id:Nat}{ty:TypeId}{x ix:Operand}(ho:o.op= .indexAddr ty x ix){k:AV->Prop}
    (h:iop Γ ty (ev x) (ev ix) k):∃r,k r/\EZ P o ev H id r none:=by
  unfold iop at h;split at h
  · rename_i e he;split at h
    · rename_i el hd;split at h
      · rename_i ee U8;split at h
        · rename_i n cs ki a hx hi;obtain⟨h0,h1,h⟩:=h;refine⟨_,h,EZ.pure λH' hH L Av w ρ hs B0=>?_⟩;have hu:=B0 x (by simp[ho,Op.operands]);have hv:=B0 ix (by simp[ho,Op.operands]);rw[hx]at hu;rw[hi]at hv;have h3:=((hG ty e he).slice hd).2 w;have h4:=(hG el ee U8).CW w;generalize hρ:ρ x=ux at hu
          cases hu with
          |v0=>omega
          | v _ _ b off cp arr et f us hM hb hn hu hr=>
            refine⟨_,?_,.p _ _ b off arr et f us hM hb hu hr⟩;simp only[execOp,ho,hv.DV,hρ];simp[Instr.indexAt,asIntOf,h3,h4,h0,h1,HO]
        · rename_i id' oo n ki a hx hi;obtain⟨h0,h1,h⟩:=h;refine⟨_,h,EZ.pure λH' hH L Av w ρ hs B0=>?_⟩;have hu:=B0 x (by simp[ho,Op.operands]);have hv:=B0 ix (by simp[ho,Op.operands]);rw[hx]at hu;rw[hi]at hv;have h3:=((hG ty e he).slice hd).2 w;have h4:=(hG el ee U8).CW w;generalize hρ:ρ x=ux at hu
          cases hu with
          | h _ _ _ l ad cp hl hn hc ha LP=>
            have YL:cp≠0:=A0;have WB:=ha.resolve_left YL;refine⟨_,?_,.q _ _ l hl LP⟩;simp only[execOp,ho,hv.DV,hρ];simp[Instr.indexAt,asIntOf,h3,h4,h0,h1,WB,HO,Nat.add_assoc]
        · rename_i sz id' oo n ki a hx hi;obtain⟨h0,h1,h⟩:=h;refine⟨_,h,EZ.pure λH' hH L Av w ρ hs B0=>?_⟩;have hu:=B0 x (by simp[ho,Op.operands]);have hv:=B0 ix (by simp[ho,Op.operands]);rw[hx]at hu;rw[hi]at hv;have h3:=((hG ty e he).slice hd).2 w;have h4:=(hG el ee U8).CW w;generalize hρ:ρ x=ux at hu
          cases hu with
          | hs _ _ _ _ l ad cp hl hn hc ha LP=>
            have YL:cp≠0:=A0;have WB:=ha.resolve_left YL;refine⟨_,?_,.q _ _ l hl LP⟩;simp only[execOp,ho,hv.DV,hρ];simp[Instr.indexAt,asIntOf,h3,h4,h0,h1,WB,HO,Nat.add_assoc]
        exact h.elim
      exact h.elim
    exact h.elim
  exact h.elim
end Go.Proofs.YtgknbnkmilddhaaGreat

namespace Go.Proofs.YtgknbnkmilddhaaGreat
section
variable{P:Program}{Γ:CA}{o:Oper}{ev:Operand->AV}{H:HP}{id:Nat}
theorem Ws{x:Operand}{n:Nat}(ho:o.op= .extract x n){k:AV->Prop}(h:eop (ev x) n k):∃r,k r/\EZ P o ev H id r none:=by
  unfold eop at h;split at h
  · rename_i vs hx;split at h
    · rename_i y hy;refine⟨_,h,EZ.pure λH' hH L Av w ρ hs B0=>?_⟩;have hu:=B0 x (by simp[ho,Op.operands]);rw[hx]at hu;generalize hρ:ρ x=ux at hu
      cases hu with
      | t _ us hs hr=>
        have C4:n<us.size:=by rw[hs];exact(List.getElem?_eq_some_iff.1 hy).1
        have:=hr n y hy;refine⟨_,?_,this⟩;simp[execOp,ho,hρ,Instr.extract,C4]
    exact h.elim
  exact h.elim
def jF(Γ:CA)(ty:TypeId)(x i:AV)(k:AV->Prop):Prop:=
  match Γ ty,x,i with
  |some e,.s s,.i _ n=>e.d= .str/\0<=n/\n<(s.size:Int)/\k (.i .u8 ((s.data.getD n.toNat 0).toNat:Int))
  |_,_,_=>False
theorem Wt(hG:IB P Γ){ty:TypeId}{x i:Operand}(ho:o.op= .index ty x i){k:AV->Prop}(h:jF Γ ty (ev x) (ev i) k):∃r,k r/\EZ P o ev H id r none:=by
  unfold jF at h;split at h
  · rename_i e s kk n he hx hn;obtain⟨h0,h1,h2,h⟩:=h;refine⟨_,h,EZ.pure λH' hH L Av w ρ hs B0=>?_⟩;have hu:=B0 x (by rw[ho];simp[Op.operands]);have hv:=B0 i (by rw[ho];simp[Op.operands]);rw[hx]at hu;rw[hn]at hv;obtain⟨d,g1,_,g2⟩:=(hG ty e he).D1;have g3:=PM (g1.trans h0);subst g3;have h4:n.toNat<s.size:=A0;have h5:s[n.toNat]? =some (s.data.getD n.toNat 0):=by
      rw[getElem?_pos s n.toNat h4];congr 1
      have h6:n.toNat<s.data.size:=h4;rw[Array.getD_eq_getD_getElem?,Array.getElem?_eq_getElem h6];rfl
    refine⟨.int .u8 ((s.data.getD n.toNat 0).toNat:Int),?_,.i _ _⟩;simp only[execOp,ho,Instr.index,asIntOf,hu.U6,hv.DV,Sem.run_bind,Sem.run_pure,Result.andThen_ok,g2,h1,if_true,h5]
  exact h.elim
theorem Mm(hG:IB P Γ){ty:TypeId}{x:Operand}{f:Nat}(ho:o.op= .field ty x f){k:AV->Prop}(h:Bk Γ ty (ev x) f k):∃r,k r/\EZ P o ev H id r none:=by
  unfold Bk at h;split at h
  · rename_i e he;split at h
    · rename_i fs hd;split at h
      · rename_i ft off hf;split at h
        · rename_i e2 PQ;obtain⟨ha,h⟩:=h;split at h
          · rename_i cs hx;split at h
            · rename_i y hy;refine⟨_,h,EZ.pure λH' hH L Av w ρ hs B0=>?_⟩;have hu:=B0 x (by simp[ho,Op.operands]);rw[hx]at hu;generalize hρ:ρ x=ux at hu
              cases hu with
              | g _ us hs hr=>
                obtain⟨Wq,fW,h7⟩:=(hG ty e he).struct hd;have h8:=(hG ft e2 PQ).jD w;have C4:off<us.size:=by rw[hs];exact(List.getElem?_eq_some_iff.1 hy).1
                obtain⟨z,Bp,hz⟩:∃z,us[off]? =some z/\us.getD off undef=z:=⟨us[off],by simp[C4],by simp[C4]⟩;have hff:∃g:Field,Wq[f]? =some g/\g.type=ft/\g.offset=off:=by
                  rw[<-fW,List.getElem?_map,Option.map_eq_some_iff]at hf;obtain⟨g,h1,h2⟩:=hf;cases h2;exact⟨g,by simpa using h1,rfl,rfl⟩
                obtain⟨g,g1,g2,g3⟩:=hff;refine⟨z,?_,hz▸hr off y hy⟩;simp[execOp,ho,hρ,Instr.field,h7 w,g1,g2,g3,asAgg,part,h8,ha,Bp]
            exact h.elim
          exact h.elim
        exact h.elim
      exact h.elim
    exact h.elim
  exact h.elim
theorem Wu{x:Operand}(ho:o.op= .nilCheck x){k:AV->Prop}(h:nop (ev x) k):∃r,k r/\EZ P o ev H id r none:=by
  unfold nop at h;split at h
  · rename_i oo cs hx;refine⟨_,h,EZ.pure λH' hH L Av w ρ hs B0=>?_⟩;have hu:=B0 x (by simp[ho,Op.operands]);refine⟨_,?_,hu⟩;rw[hx]at hu;obtain⟨b,off,arr,e,f,h1,_⟩:=hu.Bn;simp[execOp,ho,h1]
  · rename_i i oo hx;refine⟨_,h,EZ.pure λH' hH L Av w ρ hs B0=>?_⟩;have hu:=B0 x (by simp[ho,Op.operands]);refine⟨_,?_,hu⟩;rw[hx]at hu;obtain⟨l,_,h1⟩:=hu.gZ;simp[execOp,ho,h1]
  exact h.elim
theorem Bq(hG:IB P Γ){x:Operand}{ty:TypeId}{ED:Array TypeId}(ho:o.op= .call ⟨.builtin .len,#[x],ED⟩)(y8:ED[0]? =some ty){k:AV->Prop}(h:XX Γ ty (ev x) k):
    ∃r,k r/\EZ P o ev H id r none:=by
  unfold XX at h;split at h
  · rename_i e he;obtain⟨dd,U7,_,JF⟩:=(hG ty e he).D1;split at h
    · rename_i el n cs hd hx;refine⟨_,h,EZ.pure λH' hH L Av w ρ hs B0=>?_⟩;have hu:=B0 x (by simp[ho,Op.operands,Call.operands]);rw[hx]at hu;have h3:=JF w;rw[J3 (U7.trans hd)]at h3;generalize hρ:ρ x=ux at hu
      refine⟨_,?_,.i _ _⟩;cases hu<;>simp[execOp,ho,resolve,invoke,builtin,hρ,Builtin.len_,y8,h3,goInt]
    · rename_i el i oo n hd hx;refine⟨_,h,EZ.pure λH' hH L Av w ρ hs B0=>?_⟩;have hu:=B0 x (by simp[ho,Op.operands,Call.operands]);rw[hx]at hu;have h3:=JF w;rw[J3 (U7.trans hd)]at h3;generalize hρ:ρ x=ux at hu
      refine⟨_,?_,.i _ _⟩;cases hu<;>simp[execOp,ho,resolve,invoke,builtin,hρ,Builtin.len_,y8,h3,goInt]
    · rename_i el sz i oo n hd hx;refine⟨_,h,EZ.pure λH' hH L Av w ρ hs B0=>?_⟩;have hu:=B0 x (by simp[ho,Op.operands,Call.operands]);rw[hx]at hu;have h3:=JF w;rw[J3 (U7.trans hd)]at h3;generalize hρ:ρ x=ux at hu
      refine⟨_,?_,.i _ _⟩;cases hu<;>simp[execOp,ho,resolve,invoke,builtin,hρ,Builtin.len_,y8,h3,goInt]
    · rename_i el hd hx;refine⟨_,h,EZ.pure λH' hH L Av w ρ hs B0=>?_⟩;have hu:=B0 x (by simp[ho,Op.operands,Call.operands]);rw[hx]at hu;have h3:=JF w;rw[J3 (U7.trans hd)]at h3;generalize hρ:ρ x=ux at hu
      refine⟨_,?_,.i _ _⟩;cases hu<;>simp[execOp,ho,resolve,invoke,builtin,hρ,Builtin.len_,y8,h3,goInt]
    · rename_i sx hd hx;refine⟨_,h,EZ.pure λH' hH L Av w ρ hs B0=>?_⟩;have hu:=B0 x (by simp[ho,Op.operands,Call.operands]);rw[hx]at hu;have h3:=JF w;rw[PM (U7.trans hd)]at h3;generalize hρ:ρ x=ux at hu
      refine⟨_,?_,.i _ _⟩;cases hu<;>simp[execOp,ho,resolve,invoke,builtin,hρ,Builtin.len_,y8,h3,goInt]
    exact h.elim
  exact h.elim
theorem Mn{x y:Operand}{ED:Array TypeId}(ho:o.op= .call ⟨.builtin .max,#[x,y],ED⟩){k:AV->Prop}(h:Bm (ev x) (ev y) k):
    ∃r,k r/\EZ P o ev H id r none:=by
  unfold Bm at h;split at h
  · rename_i k1 a k2 b hx hy;refine⟨_,h,EZ.pure λH' hH L Av w ρ hs B0=>?_⟩;have hu:=B0 x (by simp[ho,Op.operands,Call.operands]);have hv:=B0 y (by simp[ho,Op.operands,Call.operands]);rw[hx]at hu;rw[hy]at hv;refine⟨_,?_,.i _ _⟩;simp[execOp,ho,resolve,invoke,builtin,hu.DV,hv.DV,Builtin.max_,Builtin.max2]
  exact h.elim
theorem Mo{x y:Operand}{ED:Array TypeId}(ho:o.op= .call ⟨.builtin .min,#[x,y],ED⟩){k:AV->Prop}(h:Bl (ev x) (ev y) k):
    ∃r,k r/\EZ P o ev H id r none:=by
  unfold Bl at h;split at h
  · rename_i k1 a k2 b hx hy;refine⟨_,h,EZ.pure λH' hH L Av w ρ hs B0=>?_⟩;have hu:=B0 x (by simp[ho,Op.operands,Call.operands]);have hv:=B0 y (by simp[ho,Op.operands,Call.operands]);rw[hx]at hu;rw[hy]at hv;refine⟨_,?_,.i _ _⟩;simp[execOp,ho,resolve,invoke,builtin,hu.DV,hv.DV,Builtin.min_,Builtin.min2]
  exact h.elim
theorem Br(hG:IB P Γ){x:Operand}{ty:TypeId}{ED:Array TypeId}(ho:o.op= .call ⟨.builtin .cap,#[x],ED⟩)(y8:ED[0]? =some ty){k:AV->Prop}(h:mR Γ ty (ev x) k):
    ∃r,k r/\EZ P o ev H id r none:=by
  unfold mR at h;split at h
  · rename_i e he;obtain⟨dd,U7,_,JF⟩:=(hG ty e he).D1;split at h
    · rename_i el hd hx;refine⟨_,h,EZ.pure λH' hH L Av w ρ hs B0=>?_⟩;have hu:=B0 x (by simp[ho,Op.operands,Call.operands]);rw[hx]at hu;have h3:=JF w;rw[J3 (U7.trans hd)]at h3;generalize hρ:ρ x=ux at hu
      refine⟨_,?_,.i _ _⟩;cases hu<;>simp[execOp,ho,resolve,invoke,builtin,hρ,Builtin.cap_,y8,h3,goInt]
    exact h.elim
  exact h.elim
theorem Bs{w:World}{l:Option AV}{x:Option Int}{ρv:Option Value}(hx:jE l=some x)(L:LM)(M:Nat->Prop)
    (hr:∀a,l=some a->∃u,ρv=some u/\R L w M a u) (hn:l=none->ρv=none):ρv=x.map (λn=>Value.int (match l with|some (.i k _)=>k|_=> .i64) n):=by
  unfold jE at hx;split at hx
  · cases hx;rw[hn rfl];rfl
  · cases hx;obtain⟨u,h1,h2⟩:=hr _ rfl;rw[h1,h2.DV];rfl
  cases hx
theorem T3{w:World}{len cap:Nat}{l h:Option Int}{kl kh:IntKind}(h0:0<=l.getD 0)(h1:l.getD 0<=h.getD len)(h2:h.getD len<=len)(h3:len<=cap):
    (Instr.sliceBounds true len cap (l.map (λn=> .int kl n)) (h.map (λn=> .int kh n)) none).run P w= .ok ((l.getD 0).toNat,(h.getD len).toNat,cap) w:=by
  cases l<;>cases h<;>simp only[Option.getD_none,Option.getD_some]at h0 h1 h2<;>
    simp only[Option.map_none,Option.map_some,Instr.sliceBounds,Instr.sliceBound,asIntOf,Sem.run_bind,Sem.run_pure,Result.andThen_ok,Option.getD_none,Option.getD_some]
  · simp
  · rename_i h;rw[if_pos ⟨A0,A0⟩];simp
  · rename_i l;have:(0<=l/\l<=(len:Int)):=⟨h0,h1⟩;simp[this]
  rename_i l h;have a1:(0<=h/\h<=(cap:Int)):=⟨A0,A0⟩;have a2:(0<=l/\l<=h):=⟨h0,h1⟩;have a3:0<=h:=A0;rw[if_pos a1];simp[a1.1,a2,Int.max_eq_left a3]
theorem mS{w:World}{len:Nat}{l h:Option Int}{kl kh:IntKind}(h0:0<=l.getD 0)(h1:l.getD 0<=h.getD len)(h2:h.getD len<=len):
    (Instr.sliceBounds false len len (l.map (λn=> .int kl n)) (h.map (λn=> .int kh n)) none).run P w= .ok ((l.getD 0).toNat,(h.getD len).toNat,len) w:=by
  cases l<;>cases h<;>simp only[Option.getD_none,Option.getD_some]at h0 h1 h2<;>
    simp only[Option.map_none,Option.map_some,Instr.sliceBounds,Instr.sliceBound,asIntOf,Sem.run_bind,Sem.run_pure,Result.andThen_ok,Option.getD_none,Option.getD_some]
  · simp
  · rename_i h;rw[if_pos ⟨A0,A0⟩];simp
  · rename_i l;have:(0<=l/\l<=(len:Int)):=⟨h0,h1⟩;simp[this]
  rename_i l h;have a1:(0<=h/\h<=(len:Int)):=⟨A0,A0⟩;have a2:(0<=l/\l<=h):=⟨h0,h1⟩;have a3:0<=h:=A0;rw[if_pos a1];simp[a1.1,a2,Int.max_eq_left a3]
theorem Mp{L:LM}{w:World}{M:Nat->Prop}{n:Nat}{cs:List AV}{u:Value}(hu:R L w M (.v n cs) u){l h sz:Nat}(hlh:l<=h)(hhn:h<=n):
    ∃a cp,u= .slice a n cp/\n<=cp/\R L w M (.v (h-l) ((cs.drop (l*sz)).take ((h-l)*sz))) (.slice (if cp=l then a else a.map (·.add (l*sz))) (h-l) (cp-l)):=by
  cases hu with
  | v0 a cp=>
    refine⟨a,cp,rfl,A0,?_⟩;have h1:h-l=0:=A0;rw[h1];simp only[Nat.zero_mul,List.take_zero];exact .v0 _ _
  | v _ _ b off cp arr e f us hM hb hn hu hr=>
    refine⟨some ⟨b,off,none⟩,cp,rfl,hn,?_⟩;by_cases hc:cp=l
    · have h1:h-l=0:=A0;rw[h1];simp only[Nat.zero_mul,List.take_zero];exact .v0 _ _
    rw[if_neg hc];simp only[Option.map_some,HO];refine .v _ _ b (off+l*sz) (cp-l) arr e f (λk=>us (l*sz+k)) hM hb A0 ?_ ?_
    · intro k hk;simp only[List.length_take,List.length_drop]at hk;rw[Nat.add_assoc];exact hu _ A0
    intro k x hk;simp only[List.getElem?_take,List.getElem?_drop]at hk;split at hk
    · exact hr _ _ hk
    cases hk
theorem Mq{L:LM}{w:World}{M:Nat->Prop}{i oo n:Nat}{u:Value}(hu:R L w M (.h i oo n) u){l h:Nat}(hlh:l<=h)(hhn:h<=n):
    ∃a cp,u= .slice a n cp/\n<=cp/\R L w M (.h i (oo+l) (h-l)) (.slice (if cp=l then a else a.map (·.add (l*1))) (h-l) (cp-l)):=by
  cases hu with
  | h _ _ _ lc a cp hl hn hc ha h0=>
    refine⟨some a,cp,rfl,hn,?_⟩;by_cases YL:cp=l
    · rw[if_pos YL];exact .h _ _ _ lc a _ hl A0 A0 (.inl A0) h0
    rw[if_neg YL,ha.resolve_left A0];simp only[Option.map_some,HO,Nat.mul_one];exact .h _ _ _ lc _ _ hl A0 A0 (.inr (by rw[Nat.add_assoc])) h0
theorem Wv(hG:IB P Γ){x:Operand}{lo hi:Option Operand}{ty:TypeId}(ho:o.op= .slice ty x lo hi none){k:AV->Prop}(h:sop Γ ty (ev x) (lo.map ev) (hi.map ev) k):
    ∃r,k r/\EZ P o ev H id r none:=by
  unfold sop at h;split at h
  · rename_i e he;split at h
    · rename_i el hd;split at h
      · rename_i ee U8;have JF:=λw=>((hG ty e he).slice hd).2 w
        have FV:=λw=>(hG el ee U8).CW w
        have Mr:∀(q:Option Operand),(∀z,q=some z->z∈o.op.operands)->∀(L:LM) (w:World) (M:Nat->Prop) (ρ:Operand->Value),(∀z∈o.op.operands,R L w M (ev z) (ρ z))->
            ∀y,jE (q.map ev)=some y->∃kk,q.map ρ=y.map (λn=>Value.int kk n):=by
          intro q hq L w M ρ B0 y hy;refine⟨_,Bs (w:=w) (ρv:=q.map ρ) hy L M ?_ ?_⟩
          · intro a ha;cases q with
            |none=>cases ha
            |some z=>cases ha;exact⟨ρ z,rfl,B0 z (hq z rfl)⟩
          intro hn;cases q with
          |none=>rfl
          |some z=>cases hn
        have MD:∀z,lo=some z->z∈o.op.operands:=by intro z hz;rw[ho];simp[Op.operands,hz]
        have hhi:∀z,hi=some z->z∈o.op.operands:=by intro z hz;rw[ho];simp[Op.operands,hz]
        split at h
        · rename_i n cs l hh hx K0 Ww;obtain⟨h0,h1,h2,h⟩:=h;refine⟨_,h,EZ.pure λH' hH L Av w ρ hs B0=>?_⟩;have hu:=B0 x (by rw[ho];simp[Op.operands]);rw[hx]at hu;obtain⟨kl,e1⟩:=Mr lo MD L w _ ρ B0 _ K0;obtain⟨kh,e2⟩:=Mr hi hhi L w _ ρ B0 _ Ww;obtain⟨a,cp,e3,e4,e5⟩:=Mp hu (l:=(l.getD 0).toNat) (h:=(hh.getD n).toNat) (sz:=ee.size) A0 A0;refine⟨_,?_,e5⟩;have h3:=JF w;have hb:=T3 (P:=P) (w:=w) (len:=n) (cap:=cp) (l:=l) (h:=hh) (kl:=kl) (kh:=kh) h0 h1 h2 e4;simp only[execOp,ho,e1,e2,e3,Option.map_none,Instr.sliceAt,Instr.slice,Sem.run_bind,h3,Result.andThen_ok,hb,FV w,Sem.run_pure]
        · rename_i i oo n l hh hx K0 Ww;obtain⟨hz,h0,h1,h2,h⟩:=h;refine⟨_,h,EZ.pure λH' hH L Av w ρ hs B0=>?_⟩;have hu:=B0 x (by rw[ho];simp[Op.operands]);rw[hx]at hu;obtain⟨kl,e1⟩:=Mr lo MD L w _ ρ B0 _ K0;obtain⟨kh,e2⟩:=Mr hi hhi L w _ ρ B0 _ Ww;obtain⟨a,cp,e3,e4,e5⟩:=Mq hu (l:=(l.getD 0).toNat) (h:=(hh.getD n).toNat) A0 A0;refine⟨_,?_,e5⟩;have h3:=JF w;have hb:=T3 (P:=P) (w:=w) (len:=n) (cap:=cp) (l:=l) (h:=hh) (kl:=kl) (kh:=kh) h0 h1 h2 e4;simp only[execOp,ho,e1,e2,e3,Option.map_none,Instr.sliceAt,Instr.slice,Sem.run_bind,h3,Result.andThen_ok,hb,FV w,hz,Sem.run_pure]
        · rename_i l hh hx K0 Ww;obtain⟨h0,h1,h⟩:=h;refine⟨_,h,EZ.pure λH' hH L Av w ρ hs B0=>?_⟩;have hu:=B0 x (by rw[ho];simp[Op.operands]);rw[hx]at hu;obtain⟨kl,e1⟩:=Mr lo MD L w _ ρ B0 _ K0;obtain⟨kh,e2⟩:=Mr hi hhi L w _ ρ B0 _ Ww;refine⟨_,?_,.nl⟩;have h3:=JF w;have hb:=T3 (P:=P) (w:=w) (len:=0) (cap:=0) (l:=l) (h:=hh) (kl:=kl) (kh:=kh) A0 (by simp[h0,h1]) (by simp[h1]) A0;simp only[execOp,ho,e1,e2,hu.EV,Option.map_none,Instr.sliceAt,Instr.slice,Sem.run_bind,h3,Result.andThen_ok,hb,FV w,Sem.run_pure];simp[h0,h1]
        exact h.elim
      exact h.elim
    · rename_i hd;have Mr:∀(q:Option Operand),(∀z,q=some z->z∈o.op.operands)->∀(L:LM) (w:World) (M:Nat->Prop) (ρ:Operand->Value),(∀z∈o.op.operands,R L w M (ev z) (ρ z))->
          ∀y,jE (q.map ev)=some y->∃kk,q.map ρ=y.map (λn=>Value.int kk n):=by
        intro q hq L w M ρ B0 y hy;refine⟨_,Bs (w:=w) (ρv:=q.map ρ) hy L M ?_ ?_⟩
        · intro a ha;cases q with
          |none=>cases ha
          |some z=>cases ha;exact⟨ρ z,rfl,B0 z (hq z rfl)⟩
        intro hn;cases q with
        |none=>rfl
        |some z=>cases hn
      have MD:∀z,lo=some z->z∈o.op.operands:=by intro z hz;rw[ho];simp[Op.operands,hz]
      have hhi:∀z,hi=some z->z∈o.op.operands:=by intro z hz;rw[ho];simp[Op.operands,hz]
      split at h
      · rename_i b l hh hx K0 Ww;obtain⟨h0,h1,h2,h⟩:=h;refine⟨_,h,EZ.pure λH' hH L Av w ρ hs B0=>?_⟩;have hu:=B0 x (by rw[ho];simp[Op.operands]);rw[hx]at hu;obtain⟨kl,e1⟩:=Mr lo MD L w _ ρ B0 _ K0;obtain⟨kh,e2⟩:=Mr hi hhi L w _ ρ B0 _ Ww;refine⟨_,?_,.s _⟩;obtain⟨dd,g1,_,g2⟩:=(hG ty e he).D1;have g3:=PM (g1.trans hd);subst g3;have h3:=g2 w;have hb:=mS (P:=P) (w:=w) (len:=b.size) (l:=l) (h:=hh) (kl:=kl) (kh:=kh) h0 h1 h2;simp only[execOp,ho,e1,e2,hu.U6,Option.map_none,Instr.sliceAt,Instr.slice,Sem.run_bind,h3,Result.andThen_ok,hb,Option.isSome_none,Bool.false_eq_true,if_false,Sem.run_pure]
      exact h.elim
    exact h.elim
  exact h.elim
def KL(e:TE):List AV:=e.zero.cells.toList.map F6
theorem Bt(hG:IB P Γ){ty:TypeId}(ho:o.op= .alloc ty){e:TE}(he:Γ ty=some e):EZ P o ev H id (.q id 0) (some (KL e)):=by
  refine EZ.new λH' hH L Av w ρ hs B0=>?_
  have hz:=(hG ty e he).GM w;refine⟨.pointer (some ⟨w.heap.size,0,none⟩),e.zero.cells,ty,e.zero.cells.size,?_,Nat.le_refl _,by simp[KL],?_,?_⟩
  · simp only[execOp,ho,Instr.alloc,Sem.run_bind,hz,Result.andThen_ok];simp[newVar,newRow]
  · intro k x hk;simp only[KL,List.getElem?_map,Option.map_eq_some_iff,Array.getElem?_toList]at hk;obtain⟨u,h1,h2⟩:=hk;exact⟨u,h1,h2▸R.F6 _ _ _ _⟩
  intro L' w' M' h;exact .q _ _ _ h rfl
theorem Wx{ty:TypeId}{x:Operand}(ho:o.op= .box ty x)(hx:fU (ev x)=true):EZ P o ev H id (.q id 0) (some (CN (ev x))):=by
  refine EZ.new λH' hH L Av w ρ hs B0=>?_
  have hu:=B0 x (by rw[ho];simp[Op.operands]);obtain⟨h1,h2⟩:=WA hu hx;refine⟨.pointer (some ⟨w.heap.size,0,none⟩),(ρ x).cells,ty,(ρ x).cells.size,?_,Nat.le_refl _,A0,?_,?_⟩
  · simp[execOp,ho,Instr.box,newVar,newRow]
  · intro k y hk;obtain⟨c,h3,h4,_⟩:=h2 k y hk;exact⟨c,h3,h4⟩
  intro L' w' M' h;exact .q _ _ _ h rfl
def Bu(Γ:CA)(ty:TypeId)(x y:AV)(id:Nat)(k:AV->Option (List AV)->Prop):Prop:=
  match Γ ty with
  | some e=>match e.d with
    | .slice el=>match Γ el with
      | some ee=>match x,y with
        | .i _ n,.i _ c=>ee.size=1/\0<=n/\n<=c/\c*ee.bytes<=281474976710656/\c<=9223372036854775807/\ee.zero.cells.size=1/\k (.h id 0 n.toNat) (some (List.replicate n.toNat (F6 (ee.zero.cells.getD 0 undef))))
        |_,_=>False
      |none=>False
    |_=>False
  |none=>False
theorem wrap_i64{n:Int}(h0: -9223372036854775808<=n)(h1:n<=9223372036854775807):IntKind.wrap .i64 n=n:=IntWalk.i64_in n ⟨h0,h1⟩
theorem Mt(hG:IB P Γ){ty:TypeId}{x y:Operand}(ho:o.op= .makeSlice ty x y){k:AV->Option (List AV)->Prop}(h:Bu Γ ty (ev x) (ev y) id k):∃r d,k r d/\EZ P o ev H id r d:=by
  unfold Bu at h;split at h
  · rename_i e he;split at h
    · rename_i el hd;split at h
      · rename_i ee U8;split at h
        · rename_i kx n ky c hx hy;obtain⟨h1,h2,h3,h4,h5,h6,h⟩:=h;refine⟨_,_,h,EZ.new λH' hH L Av w ρ hs B0=>?_⟩;have hu:=B0 x (by rw[ho];simp[Op.operands]);have hv:=B0 y (by rw[ho];simp[Op.operands]);rw[hx]at hu;rw[hy]at hv;have h7:=((hG ty e he).slice hd).2 w;have h8:=(hG el ee U8).CW w;obtain⟨ii,h9,VZ,LL,mD⟩:=(hG el ee U8).GK w;have pZ:=(hG el ee U8).GM w;have w1:=wrap_i64 (n:=n) A0 A0;have w2:=wrap_i64 (n:=c) A0 A0;obtain⟨z,hz⟩:∃z,ee.zero.cells=#[z]:=by
            cases Lc:ee.zero.cells with
            |mk l=>rw[Lc]at h6;match l,h6 with|[z],_=>exact⟨z,rfl⟩
          refine⟨.slice (some ⟨w.heap.size,0,none⟩) n.toNat c.toNat,(Array.range c.toNat).map (λ_=>z),el,c.toNat,?_,AB,by simp;omega,?_,?_⟩
          · have a1:¬c<0:=A0;have a2:¬n<0:=A0;have a3:¬c<n:=A0;have a4:¬(281474976710656:Int)<ee.bytes*c:=by rw[Int.mul_comm];omega
            simp only[execOp,ho,hu.DV,hv.DV,Instr.makeSlice,Sem.run_bind,h7,Result.andThen_ok,asInt,asIntOf,Sem.run_pure,h9,LL,w1,w2];by_cases Ld:c.toNat=0
            · simp[a1,a2,a3,a4,h8,h1,pZ,hz,Ld,newRow];congr 2
              apply Array.ext
              · simp
              intro i jG WC;simp at jG
            simp[a1,a2,a3,a4,h8,h1,pZ,hz,Ld,newRow];congr 2
            apply Array.ext
            · simp
            intro i jG WC;simp[Nat.mod_one]
          · intro k x hk;simp only[List.getElem?_replicate]at hk;split at hk
            · rename_i C4;cases hk;refine⟨z,?_,by rw[hz];exact R.F6 _ _ _ _⟩;have:k<c.toNat:=A0;simp[this]
            cases hk
          intro L' w' M' hl;exact .h _ _ _ _ _ _ hl A0 AB (.inr AB) rfl
        exact h.elim
      exact h.elim
    exact h.elim
  exact h.elim
def PW(L:LM)(w:World)(M:Nat->Prop)(cs:List AV)(arr:Array Value):Prop:=
  arr.size=cs.length/\∀(k:Nat) (x:AV),cs[k]? =some x->∃u,arr[k]? =some u/\R L w M x u
theorem PW.set{L:LM}{w:World}{M:Nat->Prop}{cs:List AV}{arr:Array Value}(h:PW L w M cs arr){x:AV}{u:Value}(hx:R L w M x u)(i:Nat):PW L w M (cs.set i x) (arr.setIfInBounds i u):=by
  obtain⟨h1,h2⟩:=h;refine⟨by simp[h1],?_⟩;intro k y hk;rw[List.getElem?_set]at hk;rw[Array.getElem?_setIfInBounds];split at hk
  · rename_i T4;subst T4;split at hk
    · rename_i C4;cases hk;simp[h1,C4,hx]
    cases hk
  rename_i T4;simp[T4,h2 k y hk]
theorem PW.JJ{L:LM}{w:World}{M:Nat->Prop}(us:List Value):∀(xs:List AV) (cs:List AV) (arr:Array Value) (off j:Nat),PW L w M cs arr->us.length=xs.length->
    (∀(k:Nat) (x:AV),xs[k]? =some x->∃u,us[k]? =some u/\R L w M x u)->PW L w M (JJ cs (off+j) xs) ((us.zipIdx j).foldl (λcs (c,j)=>cs.setIfInBounds (off+j) c) arr):=by
  induction us with
  | nil=>
    intro xs cs arr off j h hl hr;cases xs with
    |nil=>exact h
    |cons=>simp at hl
  | cons u us ih=>
    intro xs cs arr off j h hl hr;cases xs with
    |nil=>simp at hl
    | cons x xs=>
      obtain⟨u',JF,hx⟩:=hr 0 x rfl;cases JF
      simp only[Go.Proofs.YtgknbnkmilddhaaGreat.JJ,List.zipIdx_cons,List.foldl_cons];have:=ih xs (cs.set (off+j) x) (arr.setIfInBounds (off+j) u) off (j+1) (h.set hx _) (by simpa using hl) (λk y hk=>hr (k+1) y (by simpa using hk));rwa [show off+(j+1)=off+j+1 by omega]at this
theorem WD{L:LM}{w:World}{M:Nat->Prop}{place:Nat->Option (Nat×Nat)}{ev:Operand->AV}{ρ:Operand->Value}(parts:List (Nat×Operand)):∀(cs:List AV) (arr:Array Value) (CT:List AV),
    PW L w M cs arr->(∀i x,(i,x)∈parts->R L w M (ev x) (ρ x))->MY place cs (parts.map λ(i,x)=>(i,ev x))=some CT->
    ∃bD,Instr.fill place arr (parts.map λ(i,x)=>(i,ρ x))=some bD/\PW L w M CT bD:=by
  induction parts with
  | nil=>
    intro cs arr CT h hr hf;simp only[List.map_nil,MY,Option.some.injEq]at hf;subst hf;exact⟨arr,rfl,h⟩
  | cons p parts ih=>
    obtain⟨i,x⟩:=p;intro cs arr CT h hr hf;simp only[List.map_cons,MY]at hf;split at hf
    · cases hf
    rename_i off size hp;split at hf
    · cases hf
    rename_i hc;simp only[not_or,Decidable.not_not,Nat.not_lt,Bool.not_eq_false,gt_iff_lt]at hc;obtain⟨c1,c2,c3⟩:=hc;have hx:=hr i x AB;obtain⟨h1,h2⟩:=WA hx c2;have h3:=PW.JJ (ρ x).cells.toList (CN (ev x)) cs arr off 0 h (by simpa using h1) (λk y hk=>by
      obtain⟨c,h4,h5,_⟩:=h2 k y hk;exact⟨c,by simpa using h4,h5⟩)
    obtain⟨bD,h4,h5⟩:=ih _ _ _ (by simpa using h3) (λi' x' hm=>hr i' x' (by simp[hm])) hf;refine⟨bD,?_,h5⟩;simp only[List.map_cons,Instr.fill,hp];have QR:¬((ρ x).cells.size≠size||decide (off+(ρ x).cells.size>arr.size))=true:=by
      have:=h.1;simp only[ne_eq,Bool.or_eq_true,decide_eq_true_eq,not_or,Decidable.not_not,gt_iff_lt,Nat.not_lt];omega
    rw[if_neg QR];rw[<-h4];congr 1
    rw[<-Array.foldl_toList];congr 1
    simp
def y9(sz:Nat):Nat->List (Nat×AV)->Option (List AV)
  |_,[]=>some []
  |j,(i,x)::ps=>if i=j/\(CN x).length=sz/\fU x=true then (y9 sz (j+1) ps).map (CN x++ ·)else none
theorem qP:∀(xs pre rest:List AV),xs.length<=rest.length->JJ (pre++rest) pre.length xs=pre++xs++rest.drop xs.length:=by
  intro xs;induction xs with
  |nil=>intro pre rest _;simp[JJ]
  | cons x xs ih=>
    intro pre rest h;cases rest with
    |nil=>simp at h
    | cons r rest=>
      simp only[JJ];have h1:(pre++r::rest).set pre.length x=(pre++[x])++rest:=AB;have h2:=ih (pre++[x]) rest (by simpa using h);rw[h1];simp only[List.length_append,List.length_cons,List.length_nil,Nat.zero_add]at h2;rw[h2];simp
theorem yA(sz:Nat):∀(parts:List (Nat×AV)) (j:Nat) (pre rest cs:List AV),y9 sz j parts=some cs->pre.length=j*sz->rest.length=parts.length*sz->
    MY (λi=>some (i*sz,sz)) (pre++rest) parts=some (pre++cs)/\cs.length=parts.length*sz:=by
  intro parts;induction parts with
  | nil=>
    intro j pre rest cs h h1 h2;simp only[y9,Option.some.injEq]at h;subst h;have:rest=[]:=List.length_eq_zero_iff.1 (by simpa using h2);subst this;simp[MY]
  | cons p parts ih=>
    obtain⟨i,x⟩:=p;intro j pre rest cs h h1 h2;simp only[y9]at h;split at h
    · rename_i hc;obtain⟨rfl,c2,c3⟩:=hc;obtain⟨ds,h3,rfl⟩:=Option.map_eq_some_iff.1 h;have P7:sz<=rest.length:=by rw[h2,List.length_cons,Nat.succ_mul];omega
      have h4:=qP (CN x) pre rest A0;simp only[MY];rw[if_neg (by simp only[not_or,Decidable.not_not,Nat.not_lt,gt_iff_lt];refine⟨c2,by rw[c3];simp,?_⟩;rw[<-h1,List.length_append];omega)];rw[<-h1,h4];obtain⟨h5,h6⟩:=ih (i+1) (pre++CN x) (rest.drop (CN x).length) ds h3 (by rw[List.length_append,h1,c2,Nat.succ_mul]) (by rw[List.length_drop,h2,c2,List.length_cons,Nat.succ_mul];omega);rw[h5];refine⟨AB,?_⟩;rw[List.length_append,h6,c2,List.length_cons,Nat.succ_mul];omega
    cases h
def fX(Γ:CA)(ty:TypeId)(len:Nat)(parts:List (Nat×AV))(id:Nat)(k:AV->Option (List AV)->Prop):Prop:=
  match Γ ty with
  | some e=>match e.d with
    | .slice el=>match Γ el with
      | some ee=>Wm (ee.size==1) (ee.zero.cells.size=1/\len<=16777216/\match MY (λi=>some (i*1,1)) (List.replicate len (F6 (ee.zero.cells.getD 0 undef))) parts with
        |some cs=>cs.length=len/\k (.h id 0 len) (some cs)
        |none=>False)
        (len*ee.size<=16777216/\parts.length=len/\S5 (y9 ee.size 0 parts) λcs=>k (.hs ee.size id 0 len) (some cs))
      |none=>False
    |_=>False
  |none=>False
theorem Mu(hG:IB P Γ){ty:TypeId}{len:Nat}{parts:Array (Nat×Operand)}(ho:o.op= .buildSlice ty len parts){k:AV->Option (List AV)->Prop}
    (h:fX Γ ty len (parts.toList.map λ(i,x)=>(i,ev x)) id k):∃r d,k r d/\EZ P o ev H id r d:=by
  unfold fX at h;split at h
  · rename_i e he;split at h
    · rename_i el hd;split at h
      · rename_i ee U8;by_cases h1:ee.size=1
        · rw[Ua h1]at h;obtain⟨h2,h3,h⟩:=h;split at h
          · rename_i cs P6;obtain⟨h4,h⟩:=h;refine⟨_,_,h,EZ.new λH' hH L Av w ρ hs B0=>?_⟩;obtain⟨z,hz⟩:∃z,ee.zero.cells=#[z]:=by
              cases Lc:ee.zero.cells with
              |mk l=>rw[Lc]at h2;match l,h2 with|[z],_=>exact⟨z,rfl⟩
            have h7:=((hG ty e he).slice hd).2 w;have h8:=(hG el ee U8).CW w;have pZ:=(hG el ee U8).GM w;have tZ:PW L w (MM L H' Av) (List.replicate len (F6 (ee.zero.cells.getD 0 undef))) ((Array.range len).map (λ_=>z)):=by
              refine⟨AB,?_⟩;intro k x hk;simp only[List.getElem?_replicate]at hk;split at hk
              · rename_i C4;cases hk;exact⟨z,by simp[C4],by rw[hz];exact R.F6 _ _ _ _⟩
              cases hk
            obtain⟨bD,h9,VZ,LL⟩:=WD (ρ:=ρ) parts.toList _ _ _ tZ (λi x hm=>B0 x (by
              rw[ho];simp only[Op.operands,List.mem_toArray];simp only[List.mem_toArray,List.mem_map];exact⟨(i,x),hm,rfl⟩)) P6
            refine⟨.slice (some ⟨w.heap.size,0,none⟩) len len,bD,el,len,?_,A0,A0,LL,?_⟩
            · have a1:¬16777216<len:=A0;have Wy:(if len=0 then (#[]:Array Value)else ee.zero.cells)=(if len=0 then #[]else #[z]):=by rw[hz]
              have GA:((Array.range len).map (λx=>(if len=0 then (#[]:Array Value)else #[z])[x%(if len=0 then (#[]:Array Value)else #[z]).size]!))=(Array.range len).map (λ_=>z):=by
                apply Array.ext
                · simp
                intro i jG WC;have PH:len≠0:=by simp at jG;omega
                simp[PH,Nat.mod_one]
              simp only[execOp,ho,Instr.buildSlice,Sem.run_bind,h7,Result.andThen_ok,h8,h1,Nat.mul_one];by_cases Mv:len=0
              · subst Mv;simp at h9;have Uc:Array.map (λ_=>(default:Value)) (Array.range 0)=Array.map (λ_=>z) (Array.range 0):=by
                  apply Array.ext
                  · simp
                  intro i jG WC;simp at jG
                simp[newRow,Uc,h9]
              simp only[Nat.mul_one]at h9;simp[Mv,a1,pZ,hz,newRow,Nat.mod_one];try simp at h9
              simp[h9]
            intro L' w' M' hl;exact .h _ _ _ _ _ _ hl (Nat.le_refl _) AB (.inr AB) rfl
          exact h.elim
        rw[Ub h1]at h;obtain⟨h3,YN,cs,P6,h⟩:=h;refine⟨_,_,h,EZ.new λH' hH L Av w ρ hs B0=>?_⟩;have h7:=((hG ty e he).slice hd).2 w;have h8:=(hG el ee U8).CW w;have pZ:=(hG el ee U8).GM w;have tZ:PW L w (MM L H' Av) ((List.range (len*ee.size)).map λj=>F6 (((if len*ee.size=0 then #[]else ee.zero.cells):Array Value)[j%((if len*ee.size=0 then #[]else ee.zero.cells):Array Value).size]!)) ((Array.range (len*ee.size)).map λj=>((if len*ee.size=0 then #[]else ee.zero.cells):Array Value)[j%((if len*ee.size=0 then #[]else ee.zero.cells):Array Value).size]!):=by
          refine⟨AB,?_⟩;intro k x hk;simp only[List.getElem?_map,Option.map_eq_some_iff]at hk;obtain⟨j,hj,rfl⟩:=hk;have fM:=List.getElem?_eq_some_iff.1 hj;obtain⟨C4,u9⟩:=fM;simp only[List.getElem_range]at u9;subst u9;simp only[List.length_range]at C4;exact⟨_,by simp[C4],R.F6 _ _ _ _⟩
        obtain⟨hfa,hlen⟩:=yA ee.size _ 0 [] ((List.range (len*ee.size)).map λj=>F6 (((if len*ee.size=0 then #[]else ee.zero.cells):Array Value)[j%((if len*ee.size=0 then #[]else ee.zero.cells):Array Value).size]!)) cs P6 AB (by rw[YN];simp);obtain⟨bD,h9,VZ,LL⟩:=WD (ρ:=ρ) parts.toList _ _ _ tZ (λi x hm=>B0 x (by
          rw[ho];simp only[Op.operands,List.mem_toArray];simp only[List.mem_toArray,List.mem_map];exact⟨(i,x),hm,rfl⟩)) (by simpa using hfa)
        rw[YN]at hlen;refine⟨.slice (some ⟨w.heap.size,0,none⟩) len len,bD,el,len*ee.size,?_,A0,A0,LL,?_⟩
        · have a1:¬16777216<len*ee.size:=A0;simp only[execOp,ho,Instr.buildSlice,Sem.run_bind,h7,Result.andThen_ok,h8];by_cases Mv:len*ee.size=0
          · simp only[Mv,if_true]at h9;simp[a1,Mv,newRow];try simp at h9
            simp[h9]
          simp only[Mv,if_false]at h9;simp[Mv,a1,pZ,newRow];try simp at h9
          simp[h9]
        intro L' w' M' hl;exact .hs _ _ _ _ _ _ _ hl (Nat.le_refl _) AB (.inr AB) rfl
      exact h.elim
    exact h.elim
  exact h.elim
def yB(Γ:CA):List (TypeId×Nat)->Option (List (Nat×Nat))
  |[]=>some []
  | (ft,off)::fs=>match Γ ft,yB Γ fs with
    |some e,some r=>some ((off,e.size)::r)
    |_,_=>none
def yC(Γ:CA)(ty:TypeId)(parts:List (Nat×AV))(k:AV->Prop):Prop:=
  match Γ ty with
  | some e=>match e.d with
    | .struct fs=>match yB Γ fs with
      | some pl=>match MY (λi=>pl[i]?) (KL e) parts with
        |some cs=>k (.g cs)
        |none=>False
      |none=>False
    |_=>False
  |none=>False
theorem Bv(hG:IB P Γ)(w:World):∀(fs:List Field) (pl:List (Nat×Nat)),yB Γ (fs.map λf=>(f.type,f.offset))=some pl->(fs.mapM λf=>(do pure (f.offset,<-sizeOf f.type):Sem (Nat×Nat))).run P w= .ok pl w:=by
  intro fs;induction fs with
  |nil=>intro pl h;simp only[List.map_nil,yB,Option.some.injEq]at h;subst h;simp
  | cons f fs ih=>
    intro pl h;simp only[List.map_cons,yB]at h;split at h
    · rename_i e r he hr;cases h;have h1:=(hG f.type e he).CW w;have h2:=ih r hr;simp only[List.mapM_cons,Sem.run_bind,h1,Result.andThen_ok,Sem.run_pure,h2]
    cases h
theorem Mw(hG:IB P Γ){ty:TypeId}{parts:Array (Nat×Operand)}(ho:o.op= .build ty parts){k:AV->Prop}
    (h:yC Γ ty (parts.toList.map λ(i,x)=>(i,ev x)) k):∃r,k r/\EZ P o ev H id r none:=by
  unfold yC at h;split at h
  · rename_i e he;split at h
    · rename_i fs hd;split at h
      · rename_i pl YN;split at h
        · rename_i cs P6;refine⟨_,h,EZ.pure λH' hH L Av w ρ hs B0=>?_⟩;obtain⟨Wq,fW,h7'⟩:=(hG ty e he).struct hd;have h7:=h7' w;have pZ:=(hG ty e he).GM w;have tZ:PW L w (MM L H' Av) (KL e) e.zero.cells:=by
            refine⟨by simp[KL],?_⟩;intro k x hk;simp only[KL,List.getElem?_map,Option.map_eq_some_iff,Array.getElem?_toList]at hk;obtain⟨u,h1,h2⟩:=hk;exact⟨u,h1,h2▸R.F6 _ _ _ _⟩
          obtain⟨bD,h9,VZ,LL⟩:=WD (ρ:=ρ) parts.toList _ _ _ tZ (λi x hm=>B0 x (by
            rw[ho];simp only[Op.operands];simp only[List.mem_toArray,List.mem_map];exact⟨(i,x),hm,rfl⟩)) P6
          refine⟨.agg bD,?_,.g _ _ VZ ?_⟩
          · have h14:=Bv hG w Wq.toList pl (by rw[fW];exact YN);have Wz:(Wq.mapM λf=>(do pure (f.offset,<-sizeOf f.type):Sem (Nat×Nat))).run P w= .ok pl.toArray w:=by
              rw[Array.mapM_eq_mapM_toList];have A9W:Sem.run P (List.mapM (λf:Field=>Prod.mk f.offset<$>sizeOf f.type) Wq.toList) w= .ok pl w:=by simpa using h14
              simp[A9W]
            have Xa:(λi:Nat=>pl.toArray[i]?)=(λi:Nat=>pl[i]?):=by funext i;simp
            simp only[execOp,ho,Instr.build,Sem.run_bind,h7,pZ,Wz,Result.andThen_ok];rw[Xa];simp only[Array.toList_map];have h17:List.map (λx:Nat×Operand=>(x.fst,ρ x.snd)) parts.toList=List.map (λ(i,x)=>(i,ρ x)) parts.toList:=rfl;simp[h9]
          intro j x hj;obtain⟨u,h1,h2⟩:=LL j x hj;rw[show bD.getD j undef=u by simp[h1]];exact h2
        exact h.elim
      exact h.elim
    exact h.elim
  exact h.elim
end
end Go.Proofs.YtgknbnkmilddhaaGreat
