import Derived.Deep.Slices
import Derived.Lib.SmallJoins
import Derived.ProofKit
import Derived.Test.YtghmeeifjeafmaaGreatProg
import Derived.KernelRfl
import Derived.Test.YtghmeeifjeafmaaGreatZ05
set_option linter.unusedVariables false
set_option linter.unusedSimpArgs false
namespace Go.Proofs.YtghmeeifjeafmaaGreat

mutual
inductive Ow (H:HP):AV→AV→List Nat→Prop
  |leaf (a:AV) (hf:Fl a) (hn:NR a):Ow H a a []
  |nl:Ow H .nl (.v 0 []) []
  |h (id:Nat) (cs ts:List AV) (ids:List Nat) (h1:H id=some cs) (h2:FI H cs ts ids):Ow H (.h id 0 cs.length) (.v cs.length ts) (id::ids)
  |q (id:Nat) (cs ts:List AV) (ids:List Nat) (h1:H id=some cs) (h2:FI H cs ts ids):Ow H (.q id 0) (.p 0 ts) (id::ids)
  |g (cs ts:List AV) (ids:List Nat) (h2:FI H cs ts ids):Ow H (.g cs) (.g ts) ids
  |t (cs ts:List AV) (ids:List Nat) (h2:FI H cs ts ids):Ow H (.t cs) (.t ts) ids
inductive FI (H:HP):List AV→List AV→List Nat→Prop
  |nil:FI H [] [] []
  |cons (x y:AV) (xs ys:List AV) (is js:List Nat) (h1:Ow H x y is) (h2:FI H xs ys js):FI H (x::xs) (y::ys) (is++js)
end
theorem FI.len{H:HP}:∀{cs ts:List AV} {ids:List Nat},FI H cs ts ids→ts.length=cs.length:=by
  intro cs;induction cs with
  |nil=>intro ts ids h;cases h;rfl
  |cons c cs ih=>intro ts ids h;cases h with|cons x y xs ys is js h1 h2=>simp[ih h2]
theorem FI.get{H:HP}:∀{cs ts:List AV} {ids:List Nat},FI H cs ts ids→∀(k:Nat) (x:AV),cs[k]? =some x→∃y is,ts[k]? =some y∧Ow H x y is∧∀i∈is,i∈ids:=by
  intro cs;induction cs with
  |nil=>intro ts ids h k x hk;simp at hk
  | cons c cs ih=>
    intro ts ids h k x hk;cases h with
    | cons x' y xs ys is js h1 h2=>
      cases k with
      |zero=>simp at hk;subst hk;exact⟨y,is,rfl,h1,fun i hi=>by simp[hi]⟩
      | succ k=>
        obtain⟨y',is',h3,h4,h5⟩:=ih h2 k x (by simpa using hk);exact⟨y',is',by simpa using h3,h4,fun i hi=>by simp[h5 i hi]⟩
theorem FI.append{H:HP}:∀{cs ts CX Oy:List AV} {ids CH:List Nat},FI H cs ts ids→FI H CX Oy CH→FI H (cs++CX) (ts++Oy) (ids++CH):=by
  intro cs;induction cs with
  |nil=>intro ts CX Oy ids CH h h';cases h;exact h'
  | cons c cs ih=>
    intro ts CX Oy ids CH h h';cases h with
    | cons x y xs ys is js h1 h2=>
      have:=FI.cons _ y _ _ is _ h1 (ih h2 h');simpa[List.append_assoc]using this
theorem FI.leaves{H:HP}:∀{cs:List AV},(∀x∈cs,Fl x∧NR x)→FI H cs cs []:=by
  intro cs;induction cs with
  |nil=>intro _;exact .nil
  | cons c cs ih=>
    intro h;have:=FI.cons c c cs cs [] [] (.leaf c (h c (by simp)).1 (h c (by simp)).2) (ih (fun x hx=>h x (by simp[hx])));simpa using this

mutual
theorem Ow.AD{H H':HP}{r X:AV}{ids:List Nat}(h:Ow H r X ids)(hk:∀i∈ids,H' i=H i):Ow H' r X ids:=by
  cases h with
  |leaf _ hf hn=>exact .leaf _ hf hn
  |nl=>exact .nl
  |h id cs ts ids h1 h2=>exact .h id cs ts ids ((hk id (by simp)).trans h1) (h2.AD (fun i hi=>hk i (by simp[hi])))
  |q id cs ts ids h1 h2=>exact .q id cs ts ids ((hk id (by simp)).trans h1) (h2.AD (fun i hi=>hk i (by simp[hi])))
  |g cs ts ids h2=>exact .g cs ts ids (h2.AD hk)
  |t cs ts ids h2=>exact .t cs ts ids (h2.AD hk)
theorem FI.AD{H H':HP}{cs ts:List AV}{ids:List Nat}(h:FI H cs ts ids)(hk:∀i∈ids,H' i=H i):FI H' cs ts ids:=by
  cases h with
  |nil=>exact .nil
  |cons x y xs ys is js h1 h2=>exact .cons x y xs ys is js (h1.AD (fun i hi=>hk i (by simp[hi]))) (h2.AD (fun i hi=>hk i (by simp[hi])))
end

mutual
theorem Ow.fl{H:HP}{r X:AV}{ids:List Nat}(h:Ow H r X ids):Fl r∧(∀i∈ids,∃cs,H i=some cs∧∀(k:Nat) (x:AV),cs[k]? =some x→Fl x):=by
  cases h with
  |leaf _ hf hn=>exact⟨hf,by simp⟩
  |nl=>exact⟨.nl,by simp⟩
  | h id cs ts ids h1 h2=>
    obtain⟨h3,h4⟩:=h2.fl;refine⟨.h _ _ _,?_⟩;intro i hi;rcases List.mem_cons.1 hi with rfl|hi
    · exact⟨cs,h1,h3⟩
    exact h4 i hi
  | q id cs ts ids h1 h2=>
    obtain⟨h3,h4⟩:=h2.fl;refine⟨.q _ _,?_⟩;intro i hi;rcases List.mem_cons.1 hi with rfl|hi
    · exact⟨cs,h1,h3⟩
    exact h4 i hi
  |g cs ts ids h2=>obtain⟨h3,h4⟩:=h2.fl;exact⟨.g _ h3,h4⟩
  |t cs ts ids h2=>obtain⟨h3,h4⟩:=h2.fl;exact⟨.t _ h3,h4⟩
theorem FI.fl{H:HP}{cs ts:List AV}{ids:List Nat}(h:FI H cs ts ids):(∀(k:Nat) (x:AV),cs[k]? =some x→Fl x)∧(∀i∈ids,∃cs,H i=some cs∧∀(k:Nat) (x:AV),cs[k]? =some x→Fl x):=by
  cases h with
  |nil=>exact⟨by simp,by simp⟩
  | cons x y xs ys is js h1 h2=>
    obtain⟨h3,h4⟩:=h1.fl;obtain⟨h5,h6⟩:=h2.fl;refine⟨?_,?_⟩
    · intro k z hk;cases k with
      |zero=>simp at hk;subst hk;exact h3
      |succ k=>exact h5 k z (by simpa using hk)
    intro i hi;rcases List.mem_append.1 hi with hi|hi
    · exact h4 i hi
    exact h6 i hi
end

mutual
theorem Ow.vw{H:HP}{r X:AV}{ids:List Nat}(h:Ow H r X ids):Vw H r X:=by
  cases h with
  |leaf _ hf hn=>exact .refl _
  |nl=>exact .nl
  |h id cs ts ids h1 h2=>exact .h id 0 cs.length cs ts h1 (by omega) h2.len (fun k x y hx hy=>h2.vw k x y (by rwa [Nat.zero_add]at hx) hy)
  |q id cs ts ids h1 h2=>exact .q id 0 cs ts h1 h2.len h2.vw
  |g cs ts ids h2=>exact .g cs ts h2.len h2.vw
  |t cs ts ids h2=>exact .t cs ts h2.len h2.vw
theorem FI.vw{H:HP}{cs ts:List AV}{ids:List Nat}(h:FI H cs ts ids):∀(k:Nat) (x y:AV),cs[k]? =some x→ts[k]? =some y→Vw H x y:=by
  cases h with
  |nil=>intro k x y hx;simp at hx
  | cons x y xs ys is js h1 h2=>
    intro k a b ha hb;cases k with
    |zero=>simp at ha hb;subst ha;subst hb;exact h1.vw
    |succ k=>exact h2.vw k a b (by simpa using ha) (by simpa using hb)
end
def Own(nx nx':Nat)(H:HP)(r X:AV)(ids:List Nat):Prop:=Ow H r X ids∧ids.Nodup∧∀i∈ids,nx≤i∧i<nx'
def W9(P:Program)(f:FuncId)(Zz:List AV)(X:AV):Prop:=∀nx,AC P f nx BN Zz fun nx' H' r=>∃ids,Own nx nx' H' r X ids
theorem AC.own{P:Program}{f:FuncId}{nx:Nat}{H:HP}{Zz ts:List AV}{X:AV}{K:Nat→HP→AV→Prop}(h:W9 P f ts X)(hv:WK H Zz ts)
    (hk:∀nx' H' r ids,nx≤nx'→(∀i,i<nx→H' i=H i)→Own nx nx' H' r X ids→K nx' H' r):AC P f nx H Zz K:=by
  obtain⟨he,DE⟩:=h nx;refine⟨he,fun L Av w us hs C7 ha=>(DE L Av w us (LX hs.LP) C7 (by rw[LY];exact ha.view hs hv)).mono ?_⟩;rintro e w' ⟨u,r,L',nx',H',h1,⟨ids,⟨h2,CR,w9⟩⟩,h3,h4,h5,h6,h7,h8⟩;obtain⟨uA,dB⟩:=h2.fl;have Yj:∀i,nx≤i→H i=none:=by
    intro i hi;cases hh:H i with
    |none=>rfl
    |some cs=>obtain⟨l,g1,_⟩:=hs.node i cs hh;rw[C7 i hi]at g1;cases g1
  let H2:HP:=fun i=>if i<nx then H i else if i∈ids then H' i else none
  have CK:∀i,i<nx→H2 i=H i:=fun i hi=>by simp only[H2,hi,if_true]
  have El:∀i∈ids,H2 i=H' i:=by
    intro i hi;have:=w9 i hi;simp only[H2];rw[if_neg (by omega),if_pos hi]
  have GA:∀b,b<w.heap.size→w'.heap[b]? =w.heap[b]? :=fun b hb=>h7.AD b hb HG
  have live:∀i cs,H2 i=some cs→(i<nx∧H i=some cs)∨(i∈ids∧nx≤i∧H' i=some cs):=by
    intro i cs hi;simp only[H2]at hi;split at hi
    · exact .inl ⟨by assumption,hi⟩
    split at hi
    · exact .inr ⟨by assumption,by omega,hi⟩
    cases hi
  have I9:∀i cs l,H' i=some cs→L' i=some l→w.heap.size≤l.D1:=by
    intro i cs l g1 g2;apply Classical.byContradiction;intro BW;exact HG (h7.old l.D1 (by omega) ⟨i,cs,l,g1,g2,rfl⟩)
  have EM:Step L H w L' H2 w':=by
    refine⟨h7.le,h7.os,h7.tape,h7.output,h7.size,fun b hb _=>GA b hb,?_⟩;rintro b hb ⟨i,cs,l,g1,g2,g3⟩;rcases live i cs g1 with ⟨g4,g5⟩|⟨g4,g5,g6⟩
    · exact⟨i,cs,l,g5,by rw[←h5 i g4];exact g2,g3⟩
    have:=I9 i cs l g6 g2;omega
  have Em:SR L' H2 Av w':=by
    refine⟨?_,?_,?_,fun b hb=>Nat.lt_of_lt_of_le (hs.LP b hb) h7.size⟩
    · intro i cs hi;rcases live i cs hi with ⟨g4,g5⟩|⟨g4,g5,g6⟩
      · obtain⟨l,g7,CY⟩:=hs.node i cs g5;exact⟨l,by rw[h5 i g4];exact g7,CY.mono (GA _ CY.lt) fun k x hk c oJ=>oJ.step EM⟩
      obtain⟨l,g7,CY⟩:=h6.node i cs g6;refine⟨l,g7,CY.mono rfl fun k x hk c oJ=>?_⟩;obtain⟨CX,Oz,g15⟩:=dB i g4;rw[g6]at Oz;cases Oz;exact oJ.fl (fun _ _ h=>h) (g15 k x hk)
    · intro i i' cs CX l l' g1 g2 g3 g4 g5;rcases live i cs g1 with ⟨q1,q2⟩|⟨q1,q2,q3⟩<;>rcases live i' CX g2 with ⟨q4,q5⟩|⟨q4,q5',q6⟩
      · exact hs.inj i i' cs CX l l' q2 q5 (by rw[←h5 i q1];exact g3) (by rw[←h5 i' q4];exact g4) g5
      · have a1:=IX hs ⟨i,cs,l,q2,by rw[←h5 i q1];exact g3,rfl⟩;have a2:=I9 i' CX l' q6 g4;omega
      · have a1:=IX hs ⟨i',CX,l',q5,by rw[←h5 i' q4];exact g4,rfl⟩;have a2:=I9 i cs l q3 g3;omega
      exact h6.inj i i' cs CX l l' q3 q6 g3 g4 g5
    intro i cs l g1 g2;rcases live i cs g1 with ⟨q1,q2⟩|⟨q1,q2,q3⟩
    · exact hs.av i cs l q2 (by rw[←h5 i q1];exact g2)
    exact h6.av i cs l q3 g2
  refine⟨u,r,L',nx',H2,h1,hk nx' H2 r ids h3 CK ⟨h2.AD El,CR,w9⟩,h3,h4,h5,Em,EM,h8.fl (fun _ _ h=>h) uA⟩
theorem ga0(x d:Value):(#[x]:Array Value).getD 0 d=x:=rfl
theorem gs1(x:Value):(#[x]:Array Value).size=1:=rfl
def sl(n:Nat)(kv:List (Nat×AV)):List AV:=kv.foldl (fun l p=>l.set p.1 p.2) (List.replicate n .j)
def ints(xs:List Int):AV:= .v xs.length (xs.map (.i .i64))
def rows(xs:List (List Int)):AV:= .v xs.length (xs.map ints)
def A4(xs:List (List (List Int))):AV:= .v xs.length (xs.map rows)
theorem AJ{n:Int}(h0: -9223372036854775808≤n)(h1:n≤9223372036854775807):IntKind.wrap .i64 n=n:=wrap_i64 h0 h1
theorem Ow.ints{H:HP}{id:Nat}{xs:List Int}{n:Nat}(h:H id=some (xs.map (.i .i64)))(hn:n=xs.length):Ow H (.h id 0 n) (Go.Proofs.YtghmeeifjeafmaaGreat.ints xs) [id]:=by
  have:=Ow.h id _ _ [] h (FI.leaves (fun x hx=>by
    obtain⟨y,_,rfl⟩:=List.mem_map.1 hx;exact⟨.i _ _,.i _ _⟩))
  rw[List.length_map]at this;rw[hn];exact this
theorem Own.ints{nx nx':Nat}{H:HP}{id:Nat}{xs:List Int}{n:Nat}(h:H id=some (xs.map (.i .i64)))(hn:n=xs.length)(h1:nx≤id)(h2:id<nx'):Own nx nx' H (.h id 0 n) (Go.Proofs.YtghmeeifjeafmaaGreat.ints xs) [id]:=
  ⟨Ow.ints h hn,by simp,by simp;omega⟩
theorem UB{α:Type}(f:α→AV)(xs:List α)(d:α){k:Nat}(h:k<xs.length):(xs.map f).getD k .j=f (xs.getD k d):=by
  simp[h]
theorem A0D{p q:Prop}(h:p):(p∧q)=q:=propext ⟨fun h=>h.2,fun hq=>⟨h,hq⟩⟩
theorem A6{xs:List Int}{k:Nat}(h:k<xs.length):(xs.map (AV.i .i64)).getD k .j= .i .i64 (xs.getD k 0):=UB _ xs 0 h
theorem A7{xs:List (List Int)}{k:Nat}(h:k<xs.length):(xs.map Go.Proofs.YtghmeeifjeafmaaGreat.ints).getD k .j=Go.Proofs.YtghmeeifjeafmaaGreat.ints (xs.getD k []):=UB _ xs [] h
theorem AB{xs:List (List (List Int))}{k:Nat}(h:k<xs.length):(xs.map rows).getD k .j=rows (xs.getD k []):=UB _ xs [] h
theorem c_i(k:IntKind)(n:Int):BZ (.i k n)=[.i k n]:=rfl
theorem c_b(x:Bool):BZ (.b x)=[.b x]:=rfl
theorem c_s(x:ByteArray):BZ (.s x)=[.s x]:=rfl
theorem A0E:BZ .nl=[.nl]:=rfl
theorem c_v(n:Nat)(cs:List AV):BZ (.v n cs)=[.v n cs]:=rfl
theorem c_p(n:Nat)(cs:List AV):BZ (.p n cs)=[.p n cs]:=rfl
theorem c_h(a b c:Nat):BZ (.h a b c)=[.h a b c]:=rfl
theorem c_g(cs:List AV):BZ (.g cs)=cs:=rfl
theorem o_i(k:IntKind)(n:Int):one (.i k n)=true:=rfl
theorem A0F:one .nl=true:=rfl
theorem o_v(n:Nat)(cs:List AV):one (.v n cs)=true:=rfl
theorem o_p(n:Nat)(cs:List AV):one (.p n cs)=true:=rfl
theorem o_h(a b c:Nat):one (.h a b c)=true:=rfl
theorem k_i(k:IntKind)(n:Int):TZ (.i k n)=true:=rfl
theorem k_b(x:Bool):TZ (.b x)=true:=rfl
theorem k_s(x:ByteArray):TZ (.s x)=true:=rfl
theorem A0G:TZ .nl=true:=rfl
theorem k_v(n:Nat)(cs:List AV):TZ (.v n cs)=true:=rfl
theorem k_p(n:Nat)(cs:List AV):TZ (.p n cs)=true:=rfl
theorem k_h(a b c:Nat):TZ (.h a b c)=true:=rfl
theorem k_g(cs:List AV):TZ (.g cs)=cs.all one:=rfl
theorem sp0(a x:AV)(Zz xs:List AV):B0 (a::Zz) 0 (x::xs)=x::B0 Zz 0 xs:=by
  simp[B0]
theorem spn(cs:List AV)(o:Nat):B0 cs o []=cs:=by simp[B0]
theorem sp1(a:AV)(Zz xs:List AV)(n:Nat):B0 (a::Zz) (n+1) xs=a::B0 Zz n xs:=by
  simp[B0,Nat.add_right_comm]
theorem BL(cs:List AV)(k:Nat)(x:AV)(h:k<cs.length):B0 cs k [x]=cs.set k x:=by
  apply List.ext_getElem?;intro i;rw[LW _ _ _ (by simp;omega),List.getElem?_set];by_cases hi:k=i
  · subst hi;simp[h]
  rw[if_neg hi,if_neg (by simp;omega)]
attribute [go_sem] AJ
end Go.Proofs.YtghmeeifjeafmaaGreat
namespace Go.Proofs.YtghmeeifjeafmaaGreat
open Go.Deep Go.ChangeShapes Go.WideShapes
def Bd:LM:=fun _=>none
def Be:Nat→Prop:=fun _=>False
section
variable{T:Type}{enc:TypeId×Value→T}{P:Program}{w:World}{sp:Nat→Bool}{held:Bool}
theorem oK{α:Type}[Inhabited α]{f:α→AV}{ok:α→Prop}{t e:TypeId}{fuel:Nat}{v:Value}{x:DataW T×List MemPlace}(ht:P.underlying t=some (.slice e))(hc:P.cellsOf e=1)
    (Ay:∀n u y,DataW.trod enc P w 0 sp held n e [u]=some y→∃z:α,R Bd w Be (f z) u∧ok z) (h:DataW.trod enc P w 0 sp held fuel t [v]=some x):
    ∃xs:List α,R Bd w Be (.v xs.length (xs.map f)) v∧xs.length≤maxLen∧∀y∈xs,ok y:=by
  rcases open_slice1 ht hc h with ⟨h1,_⟩|⟨a,len,cap,m,n,V,D,Pl,h1,_,hl,Mm,hm,_,hx⟩
  · simp only[List.cons.injEq,and_true]at h1;subst h1;exact⟨[],.v0 _ _,Nat.zero_le _,by simp⟩
  simp only[List.cons.injEq,and_true]at h1;subst h1;have Dz:len≤m:=by rw[hm];split<;>omega
  have hz:∀i,i<len→∃z:α,R Bd w Be (f z) (V i)∧ok z:=fun i hi=>Ay n _ _ (hx i (by omega)).2
  obtain⟨Z,hZ⟩:=choose_lt (α:=α) (p:=fun i z=>R Bd w Be (f z) (V i)∧ok z) hz;refine⟨(List.range len).map Z,?_,by simp;omega,?_⟩
  · simp only[List.length_map,List.length_range];by_cases h0:len=0
    · subst h0;exact .v0 _ _
    obtain⟨b,off,spot⟩:=a;have Xw:=(hx 0 (by omega)).1;have Pa:spot=none:=by simpa[Addr.add]using World.cell?_spot Xw
    subst Pa;have DL:∀i,i<len→w.cell? ⟨b,off+i,none⟩=some (V i):=fun i hi=>by
      have:=(hx i (by omega)).1;rwa [FH]at this
    have hb:=DL 0 (by omega);unfold World.cell? at hb;simp only at hb
    cases T9:w.heap[b]? with
    |none=>rw[T9]at hb;cases hb
    | some o=>
      rw[T9]at hb;cases o with
      | cells arr et fr=>
        refine .v len _ b off cap arr et fr V (fun h=>h) T9 hl ?_ ?_
        · intro k hk;simp only[List.length_map,List.length_range]at hk;have:=DL k hk;unfold World.cell? at this;simp only[T9]at this;simpa using this
        intro k y hk;simp only[List.map_map,List.getElem?_map,Option.map_eq_some_iff,List.getElem?_range,Function.comp]at hk;obtain⟨i,h5,h6⟩:=hk;have hi:=List.getElem?_eq_some_iff.1 h5;simp only[List.getElem_range,List.length_range]at hi;obtain⟨h7,h8⟩:=hi;subst h8;rw[←h6];exact(hZ k h7).1
      |_=>cases hb
  intro y hy;obtain⟨i,h5,h6⟩:=List.mem_map.1 hy;rw[←h6];exact(hZ i (List.mem_range.1 h5)).2
theorem wA{f:FuncId}{Zz:List AV}{us:Array Value}(h:BG P f Zz (.b true))(ha:GU Bd w Be Zz us):Calls P f us w fun e w'=>e= .returned (.bool true)∧RowKit.Below w.heap.size w w':=by
  refine(h.2 Bd Be w us (fun _ h=>h.elim) ⟨0,fun _ _=>rfl⟩ ha).mono ?_;rintro e w' ⟨u,h1,h2,h3⟩;rw[h3.RT]at h1;exact⟨h1,h2.os,h2.tape,h2.output,h2.size,fun k hk=>h2.AD k hk HG⟩
end
attribute [go_sem] AJ
end Go.Proofs.YtghmeeifjeafmaaGreat
namespace Go.Proofs.YtghmeeifjeafmaaGreat
theorem Ow.slice{H:HP}{r:AV}{n:Nat}{ts:List AV}{ids:List Nat}(h:Ow H r (.v n ts) ids):BZ r=[r]∧one r=true∧TZ r=true:=by
  cases h<;>exact⟨rfl,rfl,rfl⟩

mutual
theorem Ow.nr{H:HP}{r X:AV}{ids:List Nat}(h:Ow H r X ids):NR X:=by
  cases h with
  |leaf _ hf hn=>exact hn
  |nl=>exact .v _ _ (by simp)
  |h id cs ts ids h1 h2=>exact .v _ _ h2.nr
  |q id cs ts ids h1 h2=>exact .p _ _ h2.nr
  |g cs ts ids h2=>exact .g _ h2.nr
  |t cs ts ids h2=>exact .t _ h2.nr
theorem FI.nr{H:HP}{cs ts:List AV}{ids:List Nat}(h:FI H cs ts ids):∀(k:Nat) (x:AV),ts[k]? =some x→NR x:=by
  cases h with
  |nil=>intro k x hk;simp at hk
  | cons x y xs ys is js h1 h2=>
    intro k z hk;cases k with
    |zero=>simp at hk;subst hk;exact h1.nr
    |succ k=>exact h2.nr k z (by simpa using hk)
end
theorem W9.pure{P:Program}{f:FuncId}{Zz:List AV}{X:AV}(h:W9 P f Zz X):BG P f Zz X:=by
  refine⟨(h 0).1,fun L M w us hM ⟨n,hn⟩ ha=>((h n).2 L M w us (LX hM) hn (by rw[LY];exact ha)).mono ?_⟩;rintro e w' ⟨u,r,L',nx',H',h1,⟨ids,h2,_⟩,h3,h4,h5,h6,h7,h8⟩;exact⟨u,h1,⟨fun _ _ h=>h,h7.os,h7.tape,h7.output,h7.size,h7.AD,fun b _ hb=>absurd hb HG⟩,(h2.vw.sound h6 h8).nr h2.nr⟩
theorem Own.AD{a b a' b':Nat}{H H':HP}{r X:AV}{ids:List Nat}(h:Own a b H r X ids)(hk:∀i,a≤i→i<b→H' i=H i)(ha:a'≤a)(hb:b≤b'):Own a' b' H' r X ids:=
  ⟨h.1.AD fun i hi=>hk i (h.2.2 i hi).1 (h.2.2 i hi).2,h.2.1,fun i hi=>by have:=h.2.2 i hi;omega⟩
attribute [go_sem] AJ
end Go.Proofs.YtghmeeifjeafmaaGreat
namespace Go.Proofs.YtghmeeifjeafmaaGreat
variable{P:Program}{Γ:BV}
theorem aT{α:Type}(a:α)(f:α→Prop):QK (some a) f=f a:=by simp[QK]
@[congr] theorem A0H {α:Type} {o o':Option α} (f:α→Prop) (h:o=o'):QK o f=QK o' f:=by rw[h]
@[congr] theorem Yk {ops rest:List Oper} {base i:Nat} {s s':St} {K:St→Prop} (h:s=s'):IP Γ P ops base rest i s K=IP Γ P ops base rest i s' K:=by rw[h]
@[congr] theorem Yl {ops rest:List Oper} {base i:Nat} {t t':List AV} {H H':HP} {k:List AV→HP→Prop} (h:t=t') (h2:H=H'):DE Γ P ops base rest i t H k=DE Γ P ops base rest i t' H' k:=by rw[h,h2]
@[congr] theorem Ym {H:HP} {x x':AV} {xs xs':List AV} {id:Nat} {k:AV→HP→Prop} (h:x=x') (h2:xs=xs'):QT H x xs id k=QT H x' xs' id k:=by rw[h,h2]
@[congr] theorem A3K {f:FuncId} {H H':HP} {Zz Pb:List AV} {r:AV} (h:H=H') (h2:Zz=Pb):RC P f H Zz r=RC P f H' Pb r:=by rw[h,h2]
theorem A0I{α:Type}{x d:α}{xs:List α}{n:Nat}:(x::xs).getD (n+1) d=xs.getD n d:=by simp
theorem A0J{α:Type}{x d:α}{xs:List α}:(x::xs).getD 0 d=x:=by simp
theorem A0K{α:Type}{x:α}{xs:List α}{n:Nat}:(x::xs)[n+1]? =xs[n]? :=by simp
theorem A0L{α:Type}{x:α}{xs:List α}:(x::xs)[0]? =some x:=by simp
theorem A0M{α:Type}{x y:α}{xs:List α}{n:Nat}:(x::xs).set (n+1) y=x::xs.set n y:=by simp
theorem A0N{α:Type}{x y:α}{xs:List α}:(x::xs).set 0 y=y::xs:=by simp
def PL(ops:List Oper)(j:Nat):Option Nat:=(ops[j]?).bind (·.dst)
theorem Pe{dst:Option Nat}{op:Op}{ty:TypeId}{pos:String}{after:Array Edge}{g:Option (Nat×Bool)}{ops:List Oper}:PL (⟨dst,op,ty,pos,after,g⟩::ops) 0=dst:=by simp[PL]
theorem Pf{o:Oper}{ops:List Oper}{j:Nat}:PL (o::ops) (j+1)=PL ops j:=by simp[PL]
def aU(v:Option AV)(d:Nat)(w:Bool)(t:List AV)(y n:List AV→Prop):Prop:=
  match v with
  |some (.b x)=>C9 x w (y (t.set d (.b w))) (n (t.set d (.b (!w)))) (.mk _) (.mk _)
  |some (.c (.tuple _))=>n t
  |_=>False
def eE(o:Option Nat)(w:Bool)(t:List AV)(y n:List AV→Prop):Prop:=
  match o with
  |some d=>aU t[d]? d w t y n
  |none=>False
theorem gD{d:Nat}{w:Bool}{t:List AV}{y n:List AV→Prop}:eE (some d) w t y n=aU t[d]? d w t y n:=rfl
theorem gV1{x:Bool}{d:Nat}{w:Bool}{t:List AV}{y n:List AV→Prop}:aU (some (.b x)) d w t y n=C9 x w (y (t.set d (.b w))) (n (t.set d (.b (!w)))) (.mk _) (.mk _):=rfl
theorem gV2{vs:Array Value}{d:Nat}{w:Bool}{t:List AV}{y n:List AV→Prop}:aU (some (.c (.tuple vs))) d w t y n=n t:=rfl
@[congr] theorem Yn {o o':Option Nat} {w:Bool} {t:List AV} {y n:List AV→Prop} (h:o=o'):eE o w t y n=eE o' w t y n:=by rw[h]
@[congr] theorem Yo {v v':Option AV} {d:Nat} {w:Bool} {t:List AV} {y n:List AV→Prop} (h:v=v'):aU v d w t y n=aU v' d w t y n:=by rw[h]
theorem En{ops:List Oper}{base i:Nat}{s:St}{K:St→Prop}:IP Γ P ops base [] i s K=K s:=rfl
theorem Eo{ops rest:List Oper}{base i:Nat}{s:St}{K:St→Prop}{dst:Option Nat}{op:Op}{ty:TypeId}{pos:String}{after:Array Edge}:
    IP Γ P ops base (⟨dst,op,ty,pos,after,none⟩::rest) i s K=HA Γ P dst op (base+i) s (fun s'=>IP Γ P ops base rest (i+1) s' K):=rfl
theorem Pg{ops rest:List Oper}{base i j:Nat}{w:Bool}{t:List AV}{H:HP}{nx:Nat}{K:St→Prop}{dst:Option Nat}{op:Op}{ty:TypeId}{pos:String}{after:Array Edge}:
    IP Γ P ops base (⟨dst,op,ty,pos,after,some (j,w)⟩::rest) i ⟨t,H,nx⟩ K=eE (PL ops j) w t (fun t=>HA Γ P dst op (base+i) ⟨t,H,nx⟩ fun s'=>IP Γ P ops base rest (i+1) s' K) (fun t=>IP Γ P ops base rest (i+1) ⟨BF t dst (.c undef),H,nx⟩ K):=by
  simp only[IP,tX,eE,aU,PL];cases (ops[j]?).bind (·.dst)with
  |none=>rfl
  | some d=>cases t[d]? with
    |none=>rfl
    |some v=>cases v<;>rfl
theorem B3{ops:List Oper}{base i:Nat}{t:List AV}{H:HP}{k:List AV→HP→Prop}:DE Γ P ops base [] i t H k=k t H:=rfl
theorem B4{ops rest:List Oper}{base i:Nat}{t:List AV}{H:HP}{k:List AV→HP→Prop}{dst:Option Nat}{op:Op}{ty:TypeId}{pos:String}{after:Array Edge}:
    DE Γ P ops base (⟨dst,op,ty,pos,after,none⟩::rest) i t H k=NG Γ P op t H (base+i) fun r d=>DE Γ P ops base rest (i+1) (BF t dst r) (FG H (base+i) d) k:=rfl
theorem BH{ops rest:List Oper}{base i j:Nat}{w:Bool}{t:List AV}{H:HP}{k:List AV→HP→Prop}{dst:Option Nat}{op:Op}{ty:TypeId}{pos:String}{after:Array Edge}:
    DE Γ P ops base (⟨dst,op,ty,pos,after,some (j,w)⟩::rest) i t H k=eE (PL ops j) w t (fun t=>NG Γ P op t H (base+i) fun r d=>DE Γ P ops base rest (i+1) (BF t dst r) (FG H (base+i) d) k) (fun t=>DE Γ P ops base rest (i+1) (BF t dst (.c undef)) H k):=by
  simp only[DE,tX,eE,aU,PL];cases (ops[j]?).bind (·.dst)with
  |none=>rfl
  | some d=>cases t[d]? with
    |none=>rfl
    |some v=>cases v<;>rfl
theorem AW.wB{cX:Ctx}(hG:GJ P Γ){n:Nat}{ops:List Oper}{s:St}{K:Exit→St→Prop}(h:IP Γ P ops s.nx ops 0 ⟨s.t,s.H,s.nx+ops.length⟩ (K .normal)):AW cX P (.region n ops.toArray false) s K:=
  AW.region hG h
theorem AW.sr{cX:Ctx}(hG:GJ P Γ){n:Nat}{ops:List Oper}{y:Code}{s:St}{K:Exit→St→Prop}(h:∀N:St→Prop,(∀s',AW cX P y s' K→N s')→IP Γ P ops s.nx ops 0 ⟨s.t,s.H,s.nx+ops.length⟩ N):AW cX P (.seq (.region n ops.toArray false) y) s K:=
  AW.seq fun N hN=>AW.region hG (h N hN)
theorem AW.BI{cX:Ctx}(hG:GJ P Γ)(Ej:P.follows .mixedOrders=true){n:Nat}{ops:List Oper}{s:St}{K:Exit→St→Prop}(m:Nat)(hd:Mj ops m=true)
    (h:DE Γ P ops s.nx (ops.take m) 0 s.t s.H fun t H'=>IP Γ P ops s.nx (ops.drop m) m ⟨t,H',s.nx+ops.length⟩ (K .normal)):AW cX P (.region n ops.toArray true) s K:=
  AW.draw hG Ej m hd h
theorem AW.AF{cX:Ctx}{c:Code}{s:St}{K:Exit→St→Prop}{α:Type}(T:α→List AV)(H:α→HP)(I:α→Nat→Prop)(μ:α→Nat)(x0:α)(h0:I x0 s.nx)(ht:AO s.t (T x0))(hH:∀id cs,H x0 id=some cs→s.H id=some cs)
    (round:∀x m,I x m→AW cX P c ⟨T x,H x,m⟩ (aO K fun s'=>∃y,AO s'.t (T y)∧(∀id cs,H y id=some cs→s'.H id=some cs)∧I y s'.nx∧μ y<μ x)):AW cX P (.loop c) s K:=
  AW.loop (α:=α×Nat) (fun x=>⟨T x.1,H x.1,x.2⟩) (fun x=>I x.1 x.2) (fun x=>μ x.1) (x0,s.nx) h0 ⟨ht,hH,Nat.le_refl _⟩
    (fun x hx=>(round x.1 x.2 hx).mono (fun e s' h=>by
      cases e<;>simp only[aO]at h ⊢
      case normal=>obtain⟨y,h1,h2,h3,h4⟩:=h;exact⟨(y,s'.nx),⟨h1,h2,Nat.le_refl _⟩,h3,h4⟩
      all_goals exact h))
end Go.Proofs.YtghmeeifjeafmaaGreat
namespace Go.Proofs.YtghmeeifjeafmaaGreat
theorem Ph{t:List AV}{n:Nat}:BK t (.tmp n)=t.getD n .j:=by simp[BK]
theorem Pj{t:List AV}{x:Value}:BK t (.const x)=XF x:=by simp[BK]
theorem Pk{t:List AV}{n:FuncId}:BK t (.func n)= .f n []:=by simp[BK]
theorem Pm{k:IntKind}{n:Int}:XF (.int k n)= .i k n:=by simp[XF,EI]
theorem Pn{x:Bool}:XF (.bool x)= .b x:=by simp[XF,EI]
theorem Po{x:ByteArray}:XF (.string x)= .s x:=by simp[XF,EI]
theorem Ep:XF (.slice none 0 0)= .nl:=by simp[XF,EI]
theorem Er{k:IntKind}{n:Int}:EI (.int k n)= .i k n:=by simp[EI]
theorem Es{x:Bool}:EI (.bool x)= .b x:=by simp[EI]
theorem Et{x:ByteArray}:EI (.string x)= .s x:=by simp[EI]
theorem wC:EI (.slice none 0 0)= .nl:=by simp[EI]
theorem Eu{t:List AV}{d:Nat}{x:AV}:BF t (some d) x=t.set d x:=by simp[BF]
theorem Ev{t:List AV}{x:AV}:BF t none x=t:=by simp[BF]
theorem Ew{H:HP}{id:Nat}{cs:List AV}:FG H id (some cs)=AU H id (some cs):=by simp[FG]
theorem Ex{H:HP}{id:Nat}:FG H id none=H:=by simp[FG]
attribute [go_sem] Ph Pj Pk Pm Pn Po Ep Er Es Et wC Eu Ev Ew Ex
inductive Tf {α:Type}:(α→Prop)→Type
  |mk (f:α→Prop):Tf f
inductive Tq:(Nat→HP→AV→Prop)→Type
  |mk (f:Nat→HP→AV→Prop):Tq f
def Ey{α:Type}(p f:α→Prop)(t:Tf f):Prop:=ex2 p f
def Yp(P:Program)(f:FuncId)(nx:Nat)(H:HP)(Zz:List AV)(Q:Nat→HP→AV→Prop)(t:Tq Q):Prop:=AC P f nx H Zz Q
@[congr] theorem Yq {α:Type} {p p' f:α→Prop} {t:Tf f} (h:∀a,p a=p' a):Ey p f t=Ey p' f t:=by rw[funext h]
@[congr] theorem A0O {P:Program} {f:FuncId} {nx nx':Nat} {H H':HP} {Zz Pb:List AV} {Q:Nat→HP→AV→Prop} {t:Tq Q} (h1:nx=nx') (h:H=H') (h2:Zz=Pb):Yp P f nx H Zz Q t=Yp P f nx' H' Pb Q t:=by rw[h1,h,h2]
section
variable{P:Program}{Γ:BV}{t:List AV}{H:HP}{id:Nat}{k:AV→Option (List AV)→Prop}
theorem Ez{x:Operand}:NG Γ P (.move x) t H id k=k (BK t x) none:=rfl
theorem oL{x:Operand}:NG Γ P (.assign x) t H id k=k (BK t x) none:=rfl
def aW(v:AV)(y n:Prop)(a:Tg y)(b:Tg n):Prop:=match v with
  | .b z=>aJ z y n a b
  |_=>False
theorem pV{z:Bool}{y n:Prop}{a:Tg y}{b:Tg n}:aW (.b z) y n a b=aJ z y n a b:=rfl
theorem Fa{c x y:Operand}:NG Γ P (.pick c x y) t H id k=aW (BK t c) (k (BK t x) none) (k (BK t y) none) (.mk _) (.mk _):=by
  simp only[NG,aW];cases BK t c<;>rfl
theorem Pp{op:BinOp}{ty ty':TypeId}{x y:Operand}:NG Γ P (.binOp op ty x y ty') t H id k=Lu Γ op ty (BK t x) (BK t y) fun r=>k r none:=rfl
theorem A0P{op:UnOp}{ty:TypeId}{x:Operand}:NG Γ P (.unOp op ty x) t H id k=Lv op (BK t x) fun r=>k r none:=rfl
theorem Fb{a b:TypeId}{x:Operand}:NG Γ P (.convert a b x) t H id k=Lw Γ a b (BK t x) fun r=>k r none:=rfl
theorem Fc{ty:TypeId}{x:Operand}:NG Γ P (.load ty x) t H id k=uP Γ H ty (BK t x) fun r=>k r none:=rfl
theorem Pq{ty:TypeId}{x:Operand}{f:Nat}:NG Γ P (.fieldAddr ty x f) t H id k=Lx Γ ty f fun off=>dP (BK t x) off fun r=>k r none:=rfl
theorem Pr{ty:TypeId}{x i:Operand}:NG Γ P (.indexAddr ty x i) t H id k=Ly Γ ty (BK t x) (BK t i) fun r=>k r none:=rfl
theorem wD{ty:TypeId}{x:Operand}{lo hi:Option Operand}:NG Γ P (.slice ty x lo hi none) t H id k=Mb Γ ty (BK t x) (lo.map (BK t)) (hi.map (BK t)) fun r=>k r none:=rfl
theorem Pt{x:Operand}{n:Nat}:NG Γ P (.extract x n) t H id k=Lz (BK t x) n fun r=>k r none:=rfl
theorem Pu{x:Operand}:NG Γ P (.nilCheck x) t H id k=Ma (BK t x) fun r=>k r none:=rfl
theorem A0Q{ty:TypeId}{x i:Operand}:NG Γ P (.index ty x i) t H id k=YH Γ ty (BK t x) (BK t i) fun r=>k r none:=rfl
theorem wE{ty:TypeId}{ps:Array (Nat×Operand)}:NG Γ P (.build ty ps) t H id k=kV Γ ty (ps.toList.map fun (i,x)=>(i,BK t x)) fun r=>k r none:=rfl
theorem A0R{ty:TypeId}{n:Nat}{ps:Array (Nat×Operand)}:NG Γ P (.buildSlice ty n ps) t H id k=WI Γ ty n (ps.toList.map fun (i,x)=>(i,BK t x)) id k:=rfl
def Mn(o:Option TE)(id:Nat)(k:AV→Option (List AV)→Prop):Prop:=match o with
  |some e=>k (.q id 0) (some (I7 e))
  |none=>False
theorem aV{e:TE}:Mn (some e) id k=k (.q id 0) (some (I7 e)):=rfl
@[congr] theorem A0S {o o':Option TE} (h:o=o'):Mn o id k=Mn o' id k:=by rw[h]
@[congr] theorem Pv {v v':AV} {y n:Prop} {a:Tg y} {b:Tg n} (h:v=v'):aW v y n a b=aW v' y n a b:=by rw[h]
theorem iE{ty:TypeId}:NG Γ P (.alloc ty) t H id k=Mn (Γ ty) id k:=by simp only[NG,Mn];cases Γ ty<;>rfl
def Pw(v:AV)(id:Nat)(k:AV→Option (List AV)→Prop):Prop:=TZ v=true∧k (.q id 0) (some (BZ v))
theorem Px{x:Operand}{ty:TypeId}{DV:List TypeId}:NG Γ P (.call ⟨.builtin .len,[x].toArray,(ty::DV).toArray⟩) t H id k=PC Γ ty (BK t x) fun r=>k r none:=rfl
theorem Fe{f:FuncId}{args:Array Operand}{DV:Array TypeId}:NG Γ P (.call ⟨.value (.func f),args,DV⟩) t H id k=Ey (fun r=>RC P f H (args.toList.map (BK t)) r) (fun r=>k r none) (.mk _):=rfl
theorem fV{f:Nat}{cs:List AV}{k:Nat→List AV→Prop}:vH (.f f cs) k=k f cs:=rfl
@[congr] theorem A0T {v v':AV} {k:Nat→List AV→Prop} (h:v=v'):vH v k=vH v' k:=by rw[h]
variable{s:St}{K:St→Prop}{dst:Option Nat}
theorem wF{n:Nat}{args:Array Operand}{DV:Array TypeId}:HA Γ P dst (.call ⟨.value (.tmp n),args,DV⟩) id s K=vH (BK s.t (.tmp n)) fun f cs=>Yp P f s.nx s.H (args.toList.map (BK s.t)++cs) (fun nx' H' r=>K ⟨BF s.t dst r,H',nx'⟩) (.mk _):=rfl
theorem Ff{x:Operand}:HA Γ P dst (.move x) id s K=K ⟨BF s.t dst (BK s.t x),s.H,s.nx⟩:=rfl
theorem oM{x:Operand}:HA Γ P dst (.assign x) id s K=K ⟨BF s.t dst (BK s.t x),s.H,s.nx⟩:=rfl
theorem Fg{c x y:Operand}:HA Γ P dst (.pick c x y) id s K=NG Γ P (.pick c x y) s.t s.H id fun r d=>K ⟨BF s.t dst r,FG s.H id d,s.nx⟩:=rfl
theorem Py{op:BinOp}{ty ty':TypeId}{x y:Operand}:HA Γ P dst (.binOp op ty x y ty') id s K=aP Γ op ty (BK s.t x) (BK s.t y) fun r=>K ⟨BF s.t dst r,s.H,s.nx⟩:=rfl
theorem A0U{op:UnOp}{ty:TypeId}{x:Operand}:HA Γ P dst (.unOp op ty x) id s K=Lv op (BK s.t x) fun r=>K ⟨BF s.t dst r,s.H,s.nx⟩:=rfl
theorem Fh{a b:TypeId}{x:Operand}:HA Γ P dst (.convert a b x) id s K=oB Γ s.H a b (BK s.t x) fun r=>K ⟨BF s.t dst r,s.H,s.nx⟩:=rfl
theorem Fi{ty:TypeId}{x:Operand}:HA Γ P dst (.load ty x) id s K=uP Γ s.H ty (BK s.t x) fun r=>K ⟨BF s.t dst r,s.H,s.nx⟩:=rfl
theorem Pz{ty:TypeId}{x:Operand}{f:Nat}:HA Γ P dst (.fieldAddr ty x f) id s K=Lx Γ ty f fun off=>dP (BK s.t x) off fun r=>K ⟨BF s.t dst r,s.H,s.nx⟩:=rfl
theorem Qa{ty:TypeId}{x i:Operand}:HA Γ P dst (.indexAddr ty x i) id s K=Ly Γ ty (BK s.t x) (BK s.t i) fun r=>K ⟨BF s.t dst r,s.H,s.nx⟩:=rfl
theorem wG{ty:TypeId}{x:Operand}{lo hi:Option Operand}:HA Γ P dst (.slice ty x lo hi none) id s K=Mb Γ ty (BK s.t x) (lo.map (BK s.t)) (hi.map (BK s.t)) fun r=>K ⟨BF s.t dst r,s.H,s.nx⟩:=rfl
theorem Qb{x:Operand}{n:Nat}:HA Γ P dst (.extract x n) id s K=Lz (BK s.t x) n fun r=>K ⟨BF s.t dst r,s.H,s.nx⟩:=rfl
theorem Qc{x:Operand}:HA Γ P dst (.nilCheck x) id s K=Ma (BK s.t x) fun r=>K ⟨BF s.t dst r,s.H,s.nx⟩:=rfl
theorem wH{ty:TypeId}{ps:Array (Nat×Operand)}:HA Γ P dst (.build ty ps) id s K=kV Γ ty (ps.toList.map fun (i,x)=>(i,BK s.t x)) fun r=>K ⟨BF s.t dst r,s.H,s.nx⟩:=rfl
theorem oN{ty:TypeId}{n:Nat}{ps:Array (Nat×Operand)}:HA Γ P dst (.buildSlice ty n ps) id s K=WI Γ ty n (ps.toList.map fun (i,x)=>(i,BK s.t x)) id fun r d=>K ⟨BF s.t dst r,FG s.H id d,s.nx⟩:=rfl
theorem A0V{ty:TypeId}{x y:Operand}:HA Γ P dst (.makeSlice ty x y) id s K=nM Γ ty (BK s.t x) (BK s.t y) id fun r d=>K ⟨BF s.t dst r,FG s.H id d,s.nx⟩:=rfl
theorem wI{ty:TypeId}:HA Γ P dst (.alloc ty) id s K=Mn (Γ ty) id fun r d=>K ⟨BF s.t dst r,FG s.H id d,s.nx⟩:=by
  rw[←iE (P:=P) (t:=s.t) (H:=s.H)];rfl
theorem Qd{ty:TypeId}{x:Operand}:HA Γ P dst (.box ty x) id s K=Pw (BK s.t x) id fun r d=>K ⟨BF s.t dst r,FG s.H id d,s.nx⟩:=rfl
theorem A0W{ty:TypeId}{x:Operand}{f:Nat}:HA Γ P dst (.field ty x f) id s K=nF Γ ty (BK s.t x) f fun r=>K ⟨BF s.t dst r,s.H,s.nx⟩:=rfl
theorem Bf{x:Operand}{ty:TypeId}{DV:List TypeId}:HA Γ P dst (.call ⟨.builtin .len,[x].toArray,(ty::DV).toArray⟩) id s K=PC Γ ty (BK s.t x) fun r=>K ⟨BF s.t dst r,s.H,s.nx⟩:=rfl
theorem Fj{f:FuncId}{args:Array Operand}{DV:Array TypeId}:HA Γ P dst (.call ⟨.value (.func f),args,DV⟩) id s K=Yp P f s.nx s.H (args.toList.map (BK s.t)) (fun nx' H' r=>K ⟨BF s.t dst r,H',nx'⟩) (.mk _):=rfl
theorem wJ{ty:TypeId}{x y:Operand}:HA Γ P dst (.store ty x y) id s K=stop Γ s.H ty (BK s.t x) (BK s.t y) fun r H'=>K ⟨BF s.t dst r,H',s.nx⟩:=rfl
theorem oO{x y:Operand}{t1 t2:TypeId}:HA Γ P dst (.call ⟨.builtin .append,[x,y].toArray,[t1,t2].toArray⟩) id s K=nO Γ s.H t1 t2 (BK s.t x) (BK s.t y) id fun r H'=>K ⟨BF s.t dst r,H',s.nx⟩:=rfl
theorem A0X{ty:TypeId}:HA Γ P dst (.makeMap ty none) id s K=gS id (fun r H'=>K ⟨BF s.t dst r,H',s.nx⟩) s.H:=rfl
theorem A0Y{ty:TypeId}{x i:Operand}{ok:Bool}:HA Γ P dst (.lookup ty x i ok) id s K=nZ Γ s.H ty (BK s.t x) (BK s.t i) ok fun r=>K ⟨BF s.t dst r,s.H,s.nx⟩:=rfl
theorem A0Z{ty:TypeId}{x i v:Operand}:HA Γ P dst (.mapUpdate ty x i v) id s K=dW Γ s.H ty (BK s.t x) (BK s.t i) (BK s.t v) fun r H'=>K ⟨BF s.t dst r,H',s.nx⟩:=rfl
theorem Qe{ty:TypeId}{x i v:Operand}:HA Γ P dst (.insert ty x i v) id s K=dW Γ s.H ty (BK s.t x) (BK s.t i) (BK s.t v) fun r H'=>K ⟨BF s.t dst r,H',s.nx⟩:=rfl
theorem A10{ty:TypeId}{x i:Operand}:HA Γ P dst (.index ty x i) id s K=YH Γ ty (BK s.t x) (BK s.t i) fun r=>K ⟨BF s.t dst r,s.H,s.nx⟩:=rfl
end
attribute [go_sem] oB gZ YH cpop gS nZ dW vL vM vN OH aK dec o8
attribute [go_sem ↓] A10 A0X A0Y A0Z Qe
attribute [go_sem] nF uO gH uR uQ fV aP Int.toNat_zero Nat.sub_zero Option.getD_some Option.getD_none pV aV Pw B3 B4 BH List.drop_nil
attribute [go_sem ↓] Ez oL Fa Pp A0P A0Q Fb Fc Pq Pr wD Pt Pu wE A0R iE Px Fe Ff oM Fg Py A0U Fh Fi Pz Qa wG Qb Qc wH oN A0V wI Qd Bf A0W Fj wF wJ oO
attribute [go_sem ↓] gB1 gB2 gB3 gB4 pB1 pB2
@[congr] theorem A11 {c c':Bool} {a b:Prop} (h:c=c'):Dc c a b=Dc c' a b:=by rw[h]
theorem aX{a b:Prop}:Dc true a b=a:=rfl
theorem Qf:((1:Nat)==1)=true:=rfl
attribute [go_sem] aX Qf Nat.reduceBEq kS Nx aF vC
theorem Fk{H:HP}{xs:List AV}{id:Nat}{k:AV→HP→Prop}:QT H .nl xs id k=((xs=[]→k .nl H)∧(xs≠ []→k (.h id 0 xs.length) (AU H id (some xs)))):=rfl
theorem Fm{H:HP}{i off n:Nat}{xs:List AV}{id:Nat}{k:AV→HP→Prop}:QT H (.h i off n) xs id k=QK (H i) fun cs=>off+n≤cs.length∧k (.h id 0 (n+xs.length)) (AU (AU H i none) id (some ((cs.drop off).take n++xs))):=rfl
theorem Fo{i off n:Nat}:WJ (.h i off n)=n:=rfl
theorem Fp:WJ .nl=0:=rfl
attribute [go_sem] En Eo Pg Pe Pf gD gV1 gV2 Lu Lv Lw uP nE Lx dP Ly Lz Ma PC Mb YF stop nO Fk Fm Fo Fp vw nM WI kV JM kU HF c_i c_b c_s A0E c_v c_p c_h c_g o_i A0F o_v o_p o_h k_i k_b k_s A0G k_v k_p k_h k_g List.all_cons List.all_nil Bool.and_true I7 TE.agg K7 A0M A0N A0I A0J A0K A0L Option.bind_some Option.map_some Option.map_none List.map_cons List.map_nil List.length_cons List.length_nil true_and and_true Bool.not_true Bool.not_false forall_const reduceCtorEq false_implies implies_true Nat.zero_add Bool.false_eq_true if_false if_true ga0 gs1 Int.toNat_natCast Int.le_refl Nat.le_refl Nat.mul_one A6 A7 AB List.length_map List.length_append List.length_take List.length_replicate A1 Option.some.injEq exists_eq_left' aT A0D A0 sp0 sp1 spn Nat.add_zero List.drop_zero List.take_succ_cons List.take_zero List.drop_succ_cons List.take_nil
theorem AC.AM{P:Program}{Γ:BV}(hG:GJ P Γ){f:FuncId}{fn:Func}{c:Code}{n:Nat}{rs:Array ResultVar}(hf:P.funcs[f]? =some fn)(hb:fn.body=some c)(hn:(fn.name== "runtime.NumGoroutine")=false)(eC:fn.ntmps=n)(PH:fn.results=rs){Zz:List AV}{nx:Nat}{H:HP}{Q:Nat→HP→AV→Prop}
    (h:∀cX:Ctx,AW cX P c ⟨Zz++List.replicate (n-Zz.length) .j,H,nx⟩ (WM Γ rs.toList Q)):AC P f nx H Zz Q:=
  AC.intro hG hf hb hn rfl (by rw[eC,PH];exact h)
theorem BG.AM{P:Program}{Γ:BV}(hG:GJ P Γ){f:FuncId}{fn:Func}{c:Code}{n:Nat}{rs:Array ResultVar}(hf:P.funcs[f]? =some fn)(hb:fn.body=some c)(hn:(fn.name== "runtime.NumGoroutine")=false)(eC:fn.ntmps=n)(PH:fn.results=rs){Zz:List AV}{r:AV}(hr:NR r)
    (h:∀nx (cX:Ctx),AW cX P c ⟨Zz++List.replicate (n-Zz.length) .j,BN,nx⟩ (WM Γ rs.toList fun _ _ r'=>r'=r)):BG P f Zz r:=
  BG.intro hG hf hb hn rfl hr (fun nx=>by rw[eC,PH];exact h nx)
@[congr] theorem A3L {cX:Ctx} {P:Program} {c:Code} {s s':St} {K:Exit→St→Prop} (h:s=s'):AW cX P c s K=AW cX P c s' K:=by rw[h]
theorem AW.DX{cX:Ctx}{P:Program}{c:Operand}{x y:Code}{s:St}{K:Exit→St→Prop}(hc:BK s.t c= .b true)(h:AW cX P x s K):AW cX P (.cond c x y) s K:=AW.cond hc (fun _=>h) (fun e=>by cases e)
theorem AW.C8{cX:Ctx}{P:Program}{c:Operand}{x y:Code}{s:St}{K:Exit→St→Prop}(hc:BK s.t c= .b false)(h:AW cX P y s K):AW cX P (.cond c x y) s K:=AW.cond hc (fun e=>by cases e) (fun _=>h)
attribute [go_sem] List.replicate_succ List.replicate_zero List.cons_append List.nil_append sl List.foldl_cons List.foldl_nil aO D1 WM O1 U9
noncomputable def tf(p:Prop):Bool:= @decide p (Classical.propDecidable p)
theorem EN{p:Prop}(h:p):tf p=true:=by simp[tf,h]
theorem CE{p:Prop}(h:¬p):tf p=false:=by simp[tf,h]
theorem oP{p:Prop}:tf p=true↔p:=by simp[tf]
theorem wK{p:Prop}:tf p=false↔¬p:=by simp[tf]
theorem RX{p q:Prop}(h:p↔q):tf p=tf q:=by rw[propext h]
theorem bt{a b:Bool}(h:a=b):AV.b a=AV.b b:=by rw[h]
theorem it{k:IntKind}{a b:Int}(h:a=b):AV.i k a=AV.i k b:=by rw[h]
theorem cn:(∀(p:Prop) [Decidable p],(decide p=true)=p)∧(∀(p:Prop) [Decidable p],(decide p=false)=¬p)∧(∀(α:Type) [BEq α] [LawfulBEq α] (a b:α),((a==b)=true)=(a=b))∧(∀(α:Type) [BEq α] [LawfulBEq α] (a b:α),((a==b)=false)=¬(a=b))∧(∀(α:Type) [BEq α] [LawfulBEq α] (a b:α),((a !=b)=true)=¬(a=b))∧(∀(α:Type) [BEq α] [LawfulBEq α] (a b:α),((a !=b)=false)=(a=b))∧
    (∀b:Bool,((!b)=true)=(b=false))∧(∀b:Bool,((!b)=false)=(b=true))∧(!true)=false∧(!false)=true∧(∀b:Bool,(¬b=true)=(b=false))∧(∀b:Bool,(¬b=false)=(b=true))∧(∀a b:Int,(a≥b)=(b≤a))∧(∀a b:Int,(a>b)=(b<a))∧(∀(α:Type) (a b:α),(a≠b)=¬(a=b))∧(∀a b:Int,(¬a<b)=(b≤a))∧(∀a b:Int,(¬a≤b)=(b<a))∧(∀p:Prop,(tf p=true)=p)∧∀p:Prop,(tf p=false)=¬p:=
  ⟨fun _=>by simp,fun _=>by simp,fun _ _ _ _ _=>by simp,fun _ _ _ a b=>by simp,fun _ _ _ _ _=>by simp,fun _ _ _ _ _=>by simp,by simp,by simp,rfl,rfl,by simp,by simp,by simp,by simp,fun _ _ _=>rfl,by simp,by simp,fun _=>propext oP,fun _=>propext wK⟩
theorem l9(xs:List Int){n:Nat}(h:n≤xs.length):AV.v n (List.take n (xs.map (.i .i64)))=ints (xs.take n):=by
  simp[ints,List.map_take,h]
theorem XN{α:Type}(xs:List α)(d:α){n j:Nat}(h:j<n):(xs.take n).getD j d=xs.getD j d:=by
  simp[List.getElem?_take,h]
end Go.Proofs.YtghmeeifjeafmaaGreat
namespace Go.Proofs.YtghmeeifjeafmaaGreat
def env:BV:=fun t=>match t with
  |2=>some ⟨.int .i64,1,8,.int .i64 0,false⟩
  |3=>some ⟨.int .i64,1,8,.int .i64 0,false⟩
  |4=>some ⟨.bool,1,1,.bool false,false⟩
  |5=>some ⟨.int .u8,1,1,.int .u8 0,false⟩
  |6=>some ⟨.int .u8,1,1,.int .u8 0,false⟩
  |7=>some ⟨.struct [(2,0),(3,1),(4,2),(6,3)],4,24,.agg #[.int .i64 0,.int .i64 0,.bool false,.int .u8 0],false⟩
  |8=>some ⟨.struct [(2,0),(3,1),(4,2),(6,3)],4,24,.agg #[.int .i64 0,.int .i64 0,.bool false,.int .u8 0],false⟩
  |9=>some ⟨.str,1,16,.string ⟨#[]⟩,false⟩
  |10=>some ⟨.str,1,16,.string ⟨#[]⟩,false⟩
  |11=>some ⟨.str,1,16,.string ⟨#[]⟩,false⟩
  |12=>some ⟨.int .u64,1,8,.int .u64 0,false⟩
  |13=>some ⟨.struct [(9,0),(12,1)],2,24,.agg #[.string ⟨#[]⟩,.int .u64 0],false⟩
  |14=>some ⟨.struct [(9,0),(12,1)],2,24,.agg #[.string ⟨#[]⟩,.int .u64 0],false⟩
  |15=>some ⟨.other,1,8,.pointer none,false⟩
  |16=>some ⟨.other,1,8,.pointer none,false⟩
  |17=>some ⟨.other,1,8,.pointer none,false⟩
  |18=>some ⟨.struct [(17,0)],1,8,.agg #[.pointer none],false⟩
  |19=>some ⟨.struct [(17,0)],1,8,.agg #[.pointer none],false⟩
  |21=>some ⟨.int .i32,1,4,.int .i32 0,false⟩
  |22=>some ⟨.slice 5,1,24,.slice none 0 0,false⟩
  |24=>some ⟨.slice 2,1,24,.slice none 0 0,false⟩
  |25=>some ⟨.slice 24,1,24,.slice none 0 0,false⟩
  |26=>some ⟨.slice 25,1,24,.slice none 0 0,false⟩
  |27=>some ⟨.struct [(24,0),(25,1),(26,2)],3,72,.agg #[.slice none 0 0,.slice none 0 0,.slice none 0 0],false⟩
  |28=>some ⟨.struct [(24,0),(25,1),(26,2)],3,72,.agg #[.slice none 0 0,.slice none 0 0,.slice none 0 0],false⟩
  |31=>some ⟨.slice 38,1,24,.slice none 0 0,false⟩
  |37=>some ⟨.struct [(28,0),(28,3),(25,6)],7,168,.agg #[.slice none 0 0,.slice none 0 0,.slice none 0 0,.slice none 0 0,.slice none 0 0,.slice none 0 0,.slice none 0 0],false⟩
  |38=>some ⟨.struct [(28,0),(28,3),(25,6)],7,168,.agg #[.slice none 0 0,.slice none 0 0,.slice none 0 0,.slice none 0 0,.slice none 0 0,.slice none 0 0,.slice none 0 0],false⟩
  |40=>some ⟨.struct [(2,0),(25,1)],2,32,.agg #[.int .i64 0,.slice none 0 0],false⟩
  |41=>some ⟨.struct [(2,0),(25,1)],2,32,.agg #[.int .i64 0,.slice none 0 0],false⟩
  |54=>some ⟨.other,1,8,.pointer none,false⟩
  |58=>some ⟨.other,1,8,.pointer none,false⟩
  |66=>some ⟨.other,1,8,.pointer none,false⟩
  |83=>some ⟨.struct [(22,0),(3,1),(2,2)],3,40,.agg #[.slice none 0 0,.int .i64 0,.int .i64 0],false⟩
  |84=>some ⟨.struct [(22,0),(3,1),(2,2)],3,40,.agg #[.slice none 0 0,.int .i64 0,.int .i64 0],false⟩
  |102=>some ⟨.slice 3,1,24,.slice none 0 0,false⟩
  |104=>some ⟨.other,1,8,.pointer none,false⟩
  |108=>some ⟨.map 2 2,1,8,.map none,false⟩
  |124=>some ⟨.int .u64,1,8,.int .u64 0,false⟩
  |129=>some ⟨.struct [(2,0),(2,1),(2,2),(2,3)],4,32,.agg #[.int .i64 0,.int .i64 0,.int .i64 0,.int .i64 0],true⟩
  |130=>some ⟨.struct [(2,0),(2,1),(2,2),(2,3)],4,32,.agg #[.int .i64 0,.int .i64 0,.int .i64 0,.int .i64 0],true⟩
  |140=>some ⟨.struct [(58,0),(25,1)],2,32,.agg #[.pointer none,.slice none 0 0],false⟩
  |141=>some ⟨.struct [(58,0),(25,1)],2,32,.agg #[.pointer none,.slice none 0 0],false⟩
  |150=>some ⟨.slice 4,1,24,.slice none 0 0,false⟩
  |152=>some ⟨.int .u32,1,4,.int .u32 0,false⟩
  |155=>some ⟨.int .u64,1,8,.int .u64 0,false⟩
  |173=>some ⟨.slice 9,1,24,.slice none 0 0,false⟩
  |188=>some ⟨.struct [(17,0),(17,1),(17,2),(9,3)],4,40,.agg #[.pointer none,.pointer none,.pointer none,.string ⟨#[]⟩],false⟩
  |189=>some ⟨.struct [(17,0),(17,1),(17,2),(9,3)],4,40,.agg #[.pointer none,.pointer none,.pointer none,.string ⟨#[]⟩],false⟩
  |194=>some ⟨.int .u8,1,1,.int .u8 0,false⟩
  |195=>some ⟨.int .u8,1,1,.int .u8 0,false⟩
  |197=>some ⟨.other,1,8,.pointer none,false⟩
  |198=>some ⟨.int .i32,1,4,.int .i32 0,false⟩
  |199=>some ⟨.int .i32,1,4,.int .i32 0,false⟩
  |200=>some ⟨.struct [(12,0),(12,1),(152,2),(194,3),(5,4),(5,5),(195,6),(196,7),(197,8),(198,9),(199,10)],11,48,.agg #[.int .u64 0,.int .u64 0,.int .u32 0,.int .u8 0,.int .u8 0,.int .u8 0,.int .u8 0,.nilFunc,.pointer none,.int .i32 0,.int .i32 0],false⟩
  |201=>some ⟨.struct [(12,0),(12,1),(152,2),(194,3),(5,4),(5,5),(195,6),(196,7),(197,8),(198,9),(199,10)],11,48,.agg #[.int .u64 0,.int .u64 0,.int .u32 0,.int .u8 0,.int .u8 0,.int .u8 0,.int .u8 0,.nilFunc,.pointer none,.int .i32 0,.int .i32 0],false⟩
  |_=>none
theorem A12:env 2=some ⟨.int .i64,1,8,.int .i64 0,false⟩:=Eq.trans rfl rfl
theorem A13:env 3=some ⟨.int .i64,1,8,.int .i64 0,false⟩:=Eq.trans rfl rfl
theorem A14:env 4=some ⟨.bool,1,1,.bool false,false⟩:=Eq.trans rfl rfl
theorem A15:env 5=some ⟨.int .u8,1,1,.int .u8 0,false⟩:=Eq.trans rfl rfl
theorem A16:env 9=some ⟨.str,1,16,.string ⟨#[]⟩,false⟩:=Eq.trans rfl rfl
theorem Qg:env 22=some ⟨.slice 5,1,24,.slice none 0 0,false⟩:=Eq.trans rfl rfl
theorem Qh:env 24=some ⟨.slice 2,1,24,.slice none 0 0,false⟩:=Eq.trans rfl rfl
theorem Qi:env 25=some ⟨.slice 24,1,24,.slice none 0 0,false⟩:=Eq.trans rfl rfl
theorem Qj:env 26=some ⟨.slice 25,1,24,.slice none 0 0,false⟩:=Eq.trans rfl rfl
theorem Qk:env 28=some ⟨.struct [(24,0),(25,1),(26,2)],3,72,.agg #[.slice none 0 0,.slice none 0 0,.slice none 0 0],false⟩:=Eq.trans rfl rfl
theorem Ql:env 58=some ⟨.other,1,8,.pointer none,false⟩:=Eq.trans rfl rfl
theorem Qm:env 84=some ⟨.struct [(22,0),(3,1),(2,2)],3,40,.agg #[.slice none 0 0,.int .i64 0,.int .i64 0],false⟩:=Eq.trans rfl rfl
theorem Fq:env 102=some ⟨.slice 3,1,24,.slice none 0 0,false⟩:=Eq.trans rfl rfl
theorem Fs:env 108=some ⟨.map 2 2,1,8,.map none,false⟩:=Eq.trans rfl rfl
theorem Ft:env 130=some ⟨.struct [(2,0),(2,1),(2,2),(2,3)],4,32,.agg #[.int .i64 0,.int .i64 0,.int .i64 0,.int .i64 0],true⟩:=Eq.trans rfl rfl
theorem Fu:env 141=some ⟨.struct [(58,0),(25,1)],2,32,.agg #[.pointer none,.slice none 0 0],false⟩:=Eq.trans rfl rfl
theorem Fv:env 150=some ⟨.slice 4,1,24,.slice none 0 0,false⟩:=Eq.trans rfl rfl
theorem Fw:env 173=some ⟨.slice 9,1,24,.slice none 0 0,false⟩:=Eq.trans rfl rfl
attribute [go_sem] A12 A13 A14 A15 A16 Qg Qh Qi Qj Qk Ql Qm Fq Fs Ft Fu Fv Fw
theorem A17:DU Tryz.prog 2 ⟨.int .i64,1,8,.int .i64 0,false⟩:=⟨by kernel_rfl,by kernel_rfl,fun h=>by cases h⟩
theorem A18:DU Tryz.prog 3 ⟨.int .i64,1,8,.int .i64 0,false⟩:=⟨by kernel_rfl,by kernel_rfl,fun h=>by cases h⟩
theorem A19:DU Tryz.prog 4 ⟨.bool,1,1,.bool false,false⟩:=⟨by kernel_rfl,by kernel_rfl,fun h=>by cases h⟩
theorem A1A:DU Tryz.prog 5 ⟨.int .u8,1,1,.int .u8 0,false⟩:=⟨by kernel_rfl,by kernel_rfl,fun h=>by cases h⟩
theorem A1B:DU Tryz.prog 6 ⟨.int .u8,1,1,.int .u8 0,false⟩:=⟨by kernel_rfl,by kernel_rfl,fun h=>by cases h⟩
theorem A1C:DU Tryz.prog 7 ⟨.struct [(2,0),(3,1),(4,2),(6,3)],4,24,.agg #[.int .i64 0,.int .i64 0,.bool false,.int .u8 0],false⟩:=⟨by kernel_rfl,by kernel_rfl,fun h=>by cases h⟩
theorem A1D:DU Tryz.prog 8 ⟨.struct [(2,0),(3,1),(4,2),(6,3)],4,24,.agg #[.int .i64 0,.int .i64 0,.bool false,.int .u8 0],false⟩:=⟨by kernel_rfl,by kernel_rfl,fun h=>by cases h⟩
theorem A1E:DU Tryz.prog 9 ⟨.str,1,16,.string ⟨#[]⟩,false⟩:=⟨by kernel_rfl,by kernel_rfl,fun h=>by cases h⟩
theorem Qn:DU Tryz.prog 10 ⟨.str,1,16,.string ⟨#[]⟩,false⟩:=⟨by kernel_rfl,by kernel_rfl,fun h=>by cases h⟩
theorem Qo:DU Tryz.prog 11 ⟨.str,1,16,.string ⟨#[]⟩,false⟩:=⟨by kernel_rfl,by kernel_rfl,fun h=>by cases h⟩
theorem Qp:DU Tryz.prog 12 ⟨.int .u64,1,8,.int .u64 0,false⟩:=⟨by kernel_rfl,by kernel_rfl,fun h=>by cases h⟩
theorem Qq:DU Tryz.prog 13 ⟨.struct [(9,0),(12,1)],2,24,.agg #[.string ⟨#[]⟩,.int .u64 0],false⟩:=⟨by kernel_rfl,by kernel_rfl,fun h=>by cases h⟩
theorem Qr:DU Tryz.prog 14 ⟨.struct [(9,0),(12,1)],2,24,.agg #[.string ⟨#[]⟩,.int .u64 0],false⟩:=⟨by kernel_rfl,by kernel_rfl,fun h=>by cases h⟩
theorem Qs:DU Tryz.prog 15 ⟨.other,1,8,.pointer none,false⟩:=⟨by kernel_rfl,by kernel_rfl,fun h=>by cases h⟩
theorem Qt:DU Tryz.prog 16 ⟨.other,1,8,.pointer none,false⟩:=⟨by kernel_rfl,by kernel_rfl,fun h=>by cases h⟩
theorem Qu:DU Tryz.prog 17 ⟨.other,1,8,.pointer none,false⟩:=⟨by kernel_rfl,by kernel_rfl,fun h=>by cases h⟩
theorem Qv:DU Tryz.prog 18 ⟨.struct [(17,0)],1,8,.agg #[.pointer none],false⟩:=⟨by kernel_rfl,by kernel_rfl,fun h=>by cases h⟩
theorem Qw:DU Tryz.prog 19 ⟨.struct [(17,0)],1,8,.agg #[.pointer none],false⟩:=⟨by kernel_rfl,by kernel_rfl,fun h=>by cases h⟩
theorem Qx:DU Tryz.prog 21 ⟨.int .i32,1,4,.int .i32 0,false⟩:=⟨by kernel_rfl,by kernel_rfl,fun h=>by cases h⟩
theorem Qy:DU Tryz.prog 22 ⟨.slice 5,1,24,.slice none 0 0,false⟩:=⟨by kernel_rfl,by kernel_rfl,fun h=>by cases h⟩
theorem Qz:DU Tryz.prog 24 ⟨.slice 2,1,24,.slice none 0 0,false⟩:=⟨by kernel_rfl,by kernel_rfl,fun h=>by cases h⟩
theorem Ra:DU Tryz.prog 25 ⟨.slice 24,1,24,.slice none 0 0,false⟩:=⟨by kernel_rfl,by kernel_rfl,fun h=>by cases h⟩
theorem Rb:DU Tryz.prog 26 ⟨.slice 25,1,24,.slice none 0 0,false⟩:=⟨by kernel_rfl,by kernel_rfl,fun h=>by cases h⟩
theorem Rc:DU Tryz.prog 27 ⟨.struct [(24,0),(25,1),(26,2)],3,72,.agg #[.slice none 0 0,.slice none 0 0,.slice none 0 0],false⟩:=⟨by kernel_rfl,by kernel_rfl,fun h=>by cases h⟩
theorem Re:DU Tryz.prog 28 ⟨.struct [(24,0),(25,1),(26,2)],3,72,.agg #[.slice none 0 0,.slice none 0 0,.slice none 0 0],false⟩:=⟨by kernel_rfl,by kernel_rfl,fun h=>by cases h⟩
theorem Rf:DU Tryz.prog 31 ⟨.slice 38,1,24,.slice none 0 0,false⟩:=⟨by kernel_rfl,by kernel_rfl,fun h=>by cases h⟩
theorem Rg:DU Tryz.prog 37 ⟨.struct [(28,0),(28,3),(25,6)],7,168,.agg #[.slice none 0 0,.slice none 0 0,.slice none 0 0,.slice none 0 0,.slice none 0 0,.slice none 0 0,.slice none 0 0],false⟩:=⟨by kernel_rfl,by kernel_rfl,fun h=>by cases h⟩
theorem Rh:DU Tryz.prog 38 ⟨.struct [(28,0),(28,3),(25,6)],7,168,.agg #[.slice none 0 0,.slice none 0 0,.slice none 0 0,.slice none 0 0,.slice none 0 0,.slice none 0 0,.slice none 0 0],false⟩:=⟨by kernel_rfl,by kernel_rfl,fun h=>by cases h⟩
theorem Ri:DU Tryz.prog 40 ⟨.struct [(2,0),(25,1)],2,32,.agg #[.int .i64 0,.slice none 0 0],false⟩:=⟨by kernel_rfl,by kernel_rfl,fun h=>by cases h⟩
theorem Rj:DU Tryz.prog 41 ⟨.struct [(2,0),(25,1)],2,32,.agg #[.int .i64 0,.slice none 0 0],false⟩:=⟨by kernel_rfl,by kernel_rfl,fun h=>by cases h⟩
theorem Rk:DU Tryz.prog 54 ⟨.other,1,8,.pointer none,false⟩:=⟨by kernel_rfl,by kernel_rfl,fun h=>by cases h⟩
theorem Rl:DU Tryz.prog 58 ⟨.other,1,8,.pointer none,false⟩:=⟨by kernel_rfl,by kernel_rfl,fun h=>by cases h⟩
theorem Rm:DU Tryz.prog 66 ⟨.other,1,8,.pointer none,false⟩:=⟨by kernel_rfl,by kernel_rfl,fun h=>by cases h⟩
theorem Rn:DU Tryz.prog 83 ⟨.struct [(22,0),(3,1),(2,2)],3,40,.agg #[.slice none 0 0,.int .i64 0,.int .i64 0],false⟩:=⟨by kernel_rfl,by kernel_rfl,fun h=>by cases h⟩
theorem Ro:DU Tryz.prog 84 ⟨.struct [(22,0),(3,1),(2,2)],3,40,.agg #[.slice none 0 0,.int .i64 0,.int .i64 0],false⟩:=⟨by kernel_rfl,by kernel_rfl,fun h=>by cases h⟩
theorem Fx:DU Tryz.prog 102 ⟨.slice 3,1,24,.slice none 0 0,false⟩:=⟨by kernel_rfl,by kernel_rfl,fun h=>by cases h⟩
theorem Fy:DU Tryz.prog 104 ⟨.other,1,8,.pointer none,false⟩:=⟨by kernel_rfl,by kernel_rfl,fun h=>by cases h⟩
theorem Ga:DU Tryz.prog 108 ⟨.map 2 2,1,8,.map none,false⟩:=⟨by kernel_rfl,by kernel_rfl,fun h=>by cases h⟩
theorem Gb:DU Tryz.prog 124 ⟨.int .u64,1,8,.int .u64 0,false⟩:=⟨by kernel_rfl,by kernel_rfl,fun h=>by cases h⟩
theorem Gc:DU Tryz.prog 129 ⟨.struct [(2,0),(2,1),(2,2),(2,3)],4,32,.agg #[.int .i64 0,.int .i64 0,.int .i64 0,.int .i64 0],true⟩:=⟨by kernel_rfl,by kernel_rfl,fun _=>by kernel_rfl⟩
theorem Gd:DU Tryz.prog 130 ⟨.struct [(2,0),(2,1),(2,2),(2,3)],4,32,.agg #[.int .i64 0,.int .i64 0,.int .i64 0,.int .i64 0],true⟩:=⟨by kernel_rfl,by kernel_rfl,fun _=>by kernel_rfl⟩
theorem Ge:DU Tryz.prog 140 ⟨.struct [(58,0),(25,1)],2,32,.agg #[.pointer none,.slice none 0 0],false⟩:=⟨by kernel_rfl,by kernel_rfl,fun h=>by cases h⟩
theorem Gf:DU Tryz.prog 141 ⟨.struct [(58,0),(25,1)],2,32,.agg #[.pointer none,.slice none 0 0],false⟩:=⟨by kernel_rfl,by kernel_rfl,fun h=>by cases h⟩
theorem Gg:DU Tryz.prog 150 ⟨.slice 4,1,24,.slice none 0 0,false⟩:=⟨by kernel_rfl,by kernel_rfl,fun h=>by cases h⟩
theorem Gh:DU Tryz.prog 152 ⟨.int .u32,1,4,.int .u32 0,false⟩:=⟨by kernel_rfl,by kernel_rfl,fun h=>by cases h⟩
theorem Gi:DU Tryz.prog 155 ⟨.int .u64,1,8,.int .u64 0,false⟩:=⟨by kernel_rfl,by kernel_rfl,fun h=>by cases h⟩
theorem Gj:DU Tryz.prog 173 ⟨.slice 9,1,24,.slice none 0 0,false⟩:=⟨by kernel_rfl,by kernel_rfl,fun h=>by cases h⟩
theorem Gk:DU Tryz.prog 188 ⟨.struct [(17,0),(17,1),(17,2),(9,3)],4,40,.agg #[.pointer none,.pointer none,.pointer none,.string ⟨#[]⟩],false⟩:=⟨by kernel_rfl,by kernel_rfl,fun h=>by cases h⟩
theorem Gl:DU Tryz.prog 189 ⟨.struct [(17,0),(17,1),(17,2),(9,3)],4,40,.agg #[.pointer none,.pointer none,.pointer none,.string ⟨#[]⟩],false⟩:=⟨by kernel_rfl,by kernel_rfl,fun h=>by cases h⟩
theorem Gm:DU Tryz.prog 194 ⟨.int .u8,1,1,.int .u8 0,false⟩:=⟨by kernel_rfl,by kernel_rfl,fun h=>by cases h⟩
theorem Gn:DU Tryz.prog 195 ⟨.int .u8,1,1,.int .u8 0,false⟩:=⟨by kernel_rfl,by kernel_rfl,fun h=>by cases h⟩
theorem Gp:DU Tryz.prog 197 ⟨.other,1,8,.pointer none,false⟩:=⟨by kernel_rfl,by kernel_rfl,fun h=>by cases h⟩
theorem Gq:DU Tryz.prog 198 ⟨.int .i32,1,4,.int .i32 0,false⟩:=⟨by kernel_rfl,by kernel_rfl,fun h=>by cases h⟩
theorem Gr:DU Tryz.prog 199 ⟨.int .i32,1,4,.int .i32 0,false⟩:=⟨by kernel_rfl,by kernel_rfl,fun h=>by cases h⟩
theorem Gs:DU Tryz.prog 200 ⟨.struct [(12,0),(12,1),(152,2),(194,3),(5,4),(5,5),(195,6),(196,7),(197,8),(198,9),(199,10)],11,48,.agg #[.int .u64 0,.int .u64 0,.int .u32 0,.int .u8 0,.int .u8 0,.int .u8 0,.int .u8 0,.nilFunc,.pointer none,.int .i32 0,.int .i32 0],false⟩:=⟨by kernel_rfl,by kernel_rfl,fun h=>by cases h⟩
theorem Gt:DU Tryz.prog 201 ⟨.struct [(12,0),(12,1),(152,2),(194,3),(5,4),(5,5),(195,6),(196,7),(197,8),(198,9),(199,10)],11,48,.agg #[.int .u64 0,.int .u64 0,.int .u32 0,.int .u8 0,.int .u8 0,.int .u8 0,.int .u8 0,.nilFunc,.pointer none,.int .i32 0,.int .i32 0],false⟩:=⟨by kernel_rfl,by kernel_rfl,fun h=>by cases h⟩
theorem A9:GJ Tryz.prog env:=by
  intro ty x h;unfold env at h;split at h<;>first|(cases h;done)|skip
  · cases h;exact A17
  · cases h;exact A18
  · cases h;exact A19
  · cases h;exact A1A
  · cases h;exact A1B
  · cases h;exact A1C
  · cases h;exact A1D
  · cases h;exact A1E
  · cases h;exact Qn
  · cases h;exact Qo
  · cases h;exact Qp
  · cases h;exact Qq
  · cases h;exact Qr
  · cases h;exact Qs
  · cases h;exact Qt
  · cases h;exact Qu
  · cases h;exact Qv
  · cases h;exact Qw
  · cases h;exact Qx
  · cases h;exact Qy
  · cases h;exact Qz
  · cases h;exact Ra
  · cases h;exact Rb
  · cases h;exact Rc
  · cases h;exact Re
  · cases h;exact Rf
  · cases h;exact Rg
  · cases h;exact Rh
  · cases h;exact Ri
  · cases h;exact Rj
  · cases h;exact Rk
  · cases h;exact Rl
  · cases h;exact Rm
  · cases h;exact Rn
  · cases h;exact Ro
  · cases h;exact Fx
  · cases h;exact Fy
  · cases h;exact Ga
  · cases h;exact Gb
  · cases h;exact Gc
  · cases h;exact Gd
  · cases h;exact Ge
  · cases h;exact Gf
  · cases h;exact Gg
  · cases h;exact Gh
  · cases h;exact Gi
  · cases h;exact Gj
  · cases h;exact Gk
  · cases h;exact Gl
  · cases h;exact Gm
  · cases h;exact Gn
  · cases h;exact Gp
  · cases h;exact Gq
  · cases h;exact Gr
  · cases h;exact Gs
  cases h;exact Gt
theorem sQ{cX:Ctx}{n:Nat}{ops:List Oper}{y:Code}{s:St}{K:Exit→St→Prop}(h:∀N:St→Prop,(∀v,AW cX Tryz.prog y v K→N v)→IP env Tryz.prog ops s.nx ops 0 ⟨s.t,s.H,s.nx+ops.length⟩ N):AW cX Tryz.prog (.seq (.region n ops.toArray false) y) s K:=AW.sr A9 h
theorem rQ{cX:Ctx}{n:Nat}{ops:List Oper}{s:St}{K:Exit→St→Prop}(h:IP env Tryz.prog ops s.nx ops 0 ⟨s.t,s.H,s.nx+ops.length⟩ (K .normal)):AW cX Tryz.prog (.region n ops.toArray false) s K:=AW.wB A9 h
end Go.Proofs.YtghmeeifjeafmaaGreat
attribute [go_sem_proc] Nat.reduceAdd Nat.reduceSub Nat.reduceGT Nat.reduceEqDiff Nat.reduceMul
attribute [go_sem] Go.undef
