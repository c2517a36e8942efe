import Derived.Deep.Slices
import Derived.Lib.SmallJoins
import Derived.ProofKit
import Derived.Test.YtgknbnkmilddhaaGreatZ05
set_option linter.unusedVariables false
set_option linter.unusedSimpArgs false

namespace Go.Proofs.YtgknbnkmilddhaaGreat

mutual
inductive Ow (H:HP):AV->AV->List Nat->Prop
  |leaf (a:AV) (hf:Fl a) (hn:NR a):Ow H a a []
  |nl:Ow H .nl (.v 0 []) []
  |h (id:Nat) (cs ts:List AV) (ids:List Nat) (h1:H id=some cs) (h2:IH H cs ts ids):Ow H (.h id 0 cs.length) (.v cs.length ts) (id::ids)
  |q (id:Nat) (cs ts:List AV) (ids:List Nat) (h1:H id=some cs) (h2:IH H cs ts ids):Ow H (.q id 0) (.p 0 ts) (id::ids)
  |g (cs ts:List AV) (ids:List Nat) (h2:IH H cs ts ids):Ow H (.g cs) (.g ts) ids
  |t (cs ts:List AV) (ids:List Nat) (h2:IH H cs ts ids):Ow H (.t cs) (.t ts) ids
inductive IH (H:HP):List AV->List AV->List Nat->Prop
  |nil:IH H [] [] []
  |cons (x y:AV) (xs ys:List AV) (is js:List Nat) (h1:Ow H x y is) (h2:IH H xs ys js):IH H (x::xs) (y::ys) (is++js)
end
theorem IH.len{H:HP}:∀{cs ts:List AV} {ids:List Nat},IH H cs ts ids->ts.length=cs.length:=by
  intro cs;induction cs with
  |nil=>intro ts ids h;cases h;rfl
  |cons c cs ih=>intro ts ids h;cases h with|cons x y xs ys is js h1 h2=>simp[ih h2]
theorem IH.get{H:HP}:∀{cs ts:List AV} {ids:List Nat},IH H cs ts ids->∀(k:Nat) (x:AV),cs[k]? =some x->∃y is,ts[k]? =some y/\Ow H x y is/\∀i∈is,i∈ids:=by
  intro cs;induction cs with
  |nil=>intro ts ids h k x hk;simp at hk
  | cons c cs ih=>
    intro ts ids h k x hk;cases h with
    | cons x' y xs ys is js h1 h2=>
      cases k with
      |zero=>simp at hk;subst hk;exact⟨y,is,rfl,h1,λi hi=>by simp[hi]⟩
      | succ k=>
        obtain⟨y',is',h3,h4,h5⟩:=ih h2 k x (by simpa using hk);exact⟨y',is',by simpa using h3,h4,λi hi=>by simp[h5 i hi]⟩
theorem IH.append{H:HP}:∀{cs ts CT ts':List AV} {ids CU:List Nat},IH H cs ts ids->IH H CT ts' CU->IH H (cs++CT) (ts++ts') (ids++CU):=by
  intro cs;induction cs with
  |nil=>intro ts CT ts' ids CU h h';cases h;exact h'
  | cons c cs ih=>
    intro ts CT ts' ids CU h h';cases h with
    | cons x y xs ys is js h1 h2=>
      have:=IH.cons _ y _ _ is _ h1 (ih h2 h');simpa[List.append_assoc]using this
theorem IH.leaves{H:HP}:∀{cs:List AV},(∀x∈cs,Fl x/\NR x)->IH H cs cs []:=by
  intro cs;induction cs with
  |nil=>intro _;exact .nil
  | cons c cs ih=>
    intro h;have:=IH.cons c c cs cs [] [] (.leaf c (h c AB).1 (h c AB).2) (ih (λx hx=>h x (by simp[hx])));simpa using this

mutual
theorem Ow.AJ{H H':HP}{r X:AV}{ids:List Nat}(h:Ow H r X ids)(hk:∀i∈ids,H' i=H i):Ow H' r X ids:=by
  cases h with
  |leaf _ hf hn=>exact .leaf _ hf hn
  |nl=>exact .nl
  |h id cs ts ids h1 h2=>exact .h id cs ts ids ((hk id AB).trans h1) (h2.AJ (λi hi=>hk i (by simp[hi])))
  |q id cs ts ids h1 h2=>exact .q id cs ts ids ((hk id AB).trans h1) (h2.AJ (λi hi=>hk i (by simp[hi])))
  |g cs ts ids h2=>exact .g cs ts ids (h2.AJ hk)
  |t cs ts ids h2=>exact .t cs ts ids (h2.AJ hk)
theorem IH.AJ{H H':HP}{cs ts:List AV}{ids:List Nat}(h:IH H cs ts ids)(hk:∀i∈ids,H' i=H i):IH H' cs ts ids:=by
  cases h with
  |nil=>exact .nil
  |cons x y xs ys is js h1 h2=>exact .cons x y xs ys is js (h1.AJ (λi hi=>hk i (by simp[hi]))) (h2.AJ (λi hi=>hk i (by simp[hi])))
end

mutual
theorem Ow.fl{H:HP}{r X:AV}{ids:List Nat}(h:Ow H r X ids):Fl r/\(∀i∈ids,∃cs,H i=some cs/\∀(k:Nat) (x:AV),cs[k]? =some x->Fl x):=by
  cases h with
  |leaf _ hf hn=>exact⟨hf,AB⟩
  |nl=>exact⟨.nl,AB⟩
  | h id cs ts ids h1 h2=>
    obtain⟨h3,h4⟩:=h2.fl;refine⟨.h _ _ _,?_⟩;intro i hi;rcases List.mem_cons.1 hi with rfl|hi
    · exact⟨cs,h1,h3⟩
    exact h4 i hi
  | q id cs ts ids h1 h2=>
    obtain⟨h3,h4⟩:=h2.fl;refine⟨.q _ _,?_⟩;intro i hi;rcases List.mem_cons.1 hi with rfl|hi
    · exact⟨cs,h1,h3⟩
    exact h4 i hi
  |g cs ts ids h2=>obtain⟨h3,h4⟩:=h2.fl;exact⟨.g _ h3,h4⟩
  |t cs ts ids h2=>obtain⟨h3,h4⟩:=h2.fl;exact⟨.t _ h3,h4⟩
theorem IH.fl{H:HP}{cs ts:List AV}{ids:List Nat}(h:IH H cs ts ids):(∀(k:Nat) (x:AV),cs[k]? =some x->Fl x)/\(∀i∈ids,∃cs,H i=some cs/\∀(k:Nat) (x:AV),cs[k]? =some x->Fl x):=by
  cases h with
  |nil=>exact⟨AB,AB⟩
  | cons x y xs ys is js h1 h2=>
    obtain⟨h3,h4⟩:=h1.fl;obtain⟨h5,h6⟩:=h2.fl;refine⟨?_,?_⟩
    · intro k z hk;cases k with
      |zero=>simp at hk;subst hk;exact h3
      |succ k=>exact h5 k z (by simpa using hk)
    intro i hi;rcases List.mem_append.1 hi with hi|hi
    · exact h4 i hi
    exact h6 i hi
end

mutual
theorem Ow.vw{H:HP}{r X:AV}{ids:List Nat}(h:Ow H r X ids):Vw H r X:=by
  cases h with
  |leaf _ hf hn=>exact .refl _
  |nl=>exact .nl
  |h id cs ts ids h1 h2=>exact .h id 0 cs.length cs ts h1 A0 h2.len (λk x y hx hy=>h2.vw k x y (by rwa [Nat.zero_add]at hx) hy)
  |q id cs ts ids h1 h2=>exact .q id 0 cs ts h1 h2.len h2.vw
  |g cs ts ids h2=>exact .g cs ts h2.len h2.vw
  |t cs ts ids h2=>exact .t cs ts h2.len h2.vw
theorem IH.vw{H:HP}{cs ts:List AV}{ids:List Nat}(h:IH H cs ts ids):∀(k:Nat) (x y:AV),cs[k]? =some x->ts[k]? =some y->Vw H x y:=by
  cases h with
  |nil=>intro k x y hx;simp at hx
  | cons x y xs ys is js h1 h2=>
    intro k a b ha hb;cases k with
    |zero=>simp at ha hb;subst ha;subst hb;exact h1.vw
    |succ k=>exact h2.vw k a b (by simpa using ha) (by simpa using hb)
end
def Own(nx BB:Nat)(H:HP)(r X:AV)(ids:List Nat):Prop:=Ow H r X ids/\ids.Nodup/\∀i∈ids,nx<=i/\i<BB
def gE(P:Program)(f:FuncId)(Zz:List AV)(X:AV):Prop:=∀nx,AC P f nx BM Zz λBB H' r=>∃ids,Own nx BB H' r X ids
theorem AC.own{P:Program}{f:FuncId}{nx:Nat}{H:HP}{Zz ts:List AV}{X:AV}{K:Nat->HP->AV->Prop}(h:gE P f ts X)(hv:ZY H Zz ts)
    (hk:∀BB H' r ids,nx<=BB->(∀i,i<nx->H' i=H i)->Own nx BB H' r X ids->K BB H' r):AC P f nx H Zz K:=by
  obtain⟨he,E8⟩:=h nx;refine⟨he,λL Av w us hs CQ ha=>(E8 L Av w us (WI hs.PL) CQ (by rw[WJ];exact ha.view hs hv)).mono ?_⟩;rintro e w' ⟨u,r,L',BB,H',h1,⟨ids,⟨h2,D9,Ny⟩⟩,h3,h4,h5,h6,h7,h8⟩;obtain⟨bO,iC⟩:=h2.fl;have hHn:∀i,nx<=i->H i=none:=by
    intro i hi;cases hh:H i with
    |none=>rfl
    |some cs=>obtain⟨l,g1,_⟩:=hs.node i cs hh;rw[CQ i hi]at g1;cases g1
  let H2:HP:=λi=>if i<nx then H i else if i∈ids then H' i else none
  have CD:∀i,i<nx->H2 i=H i:=λi hi=>by simp only[H2,hi,if_true]
  have Xy:∀i∈ids,H2 i=H' i:=by
    intro i hi;have:=Ny i hi;simp only[H2];rw[if_neg A0,if_pos hi]
  have KH:∀b,b<w.heap.size->w'.heap[b]? =w.heap[b]? :=λb hb=>h7.AJ b hb JK
  have live:∀i cs,H2 i=some cs->(i<nx/\H i=some cs)\/(i∈ids/\nx<=i/\H' i=some cs):=by
    intro i cs hi;simp only[H2]at hi;split at hi
    · exact .inl ⟨by assumption,hi⟩
    split at hi
    · exact .inr ⟨by assumption,A0,hi⟩
    cases hi
  have KO:∀i cs l,H' i=some cs->L' i=some l->w.heap.size<=l.CP:=by
    intro i cs l g1 g2;apply Classical.byContradiction;intro C4;exact JK (h7.old l.CP A0 ⟨i,cs,l,g1,g2,rfl⟩)
  have ER:Step L H w L' H2 w':=by
    refine⟨h7.le,h7.os,h7.tape,h7.output,h7.size,λb hb _=>KH b hb,?_⟩;rintro b hb ⟨i,cs,l,g1,g2,g3⟩;rcases live i cs g1 with ⟨g4,g5⟩|⟨g4,g5,g6⟩
    · exact⟨i,cs,l,g5,by rw[<-h5 i g4];exact g2,g3⟩
    have:=KO i cs l g6 g2;omega
  have Ln:SR L' H2 Av w':=by
    refine⟨?_,?_,?_,λb hb=>Nat.lt_of_lt_of_le (hs.PL b hb) h7.size⟩
    · intro i cs hi;rcases live i cs hi with ⟨g4,g5⟩|⟨g4,g5,g6⟩
      · obtain⟨l,g7,D0⟩:=hs.node i cs g5;exact⟨l,by rw[h5 i g4];exact g7,D0.mono (KH _ D0.lt) λk x hk c g13=>g13.step ER⟩
      obtain⟨l,g7,D0⟩:=h6.node i cs g6;refine⟨l,g7,D0.mono rfl λk x hk c g13=>?_⟩;obtain⟨CT,g14,g15⟩:=iC i g4;rw[g6]at g14;cases g14;exact g13.fl (λ_ _ h=>h) (g15 k x hk)
    · intro i i' cs CT l l' g1 g2 g3 g4 g5;rcases live i cs g1 with ⟨q1,q2⟩|⟨q1,q2,q3⟩<;>rcases live i' CT g2 with ⟨q4,q5⟩|⟨q4,q5',q6⟩
      · exact hs.inj i i' cs CT l l' q2 q5 (by rw[<-h5 i q1];exact g3) (by rw[<-h5 i' q4];exact g4) g5
      · have a1:=LX hs ⟨i,cs,l,q2,by rw[<-h5 i q1];exact g3,rfl⟩;have a2:=KO i' CT l' q6 g4;omega
      · have a1:=LX hs ⟨i',CT,l',q5,by rw[<-h5 i' q4];exact g4,rfl⟩;have a2:=KO i cs l q3 g3;omega
      exact h6.inj i i' cs CT l l' q3 q6 g3 g4 g5
    intro i cs l g1 g2;rcases live i cs g1 with ⟨q1,q2⟩|⟨q1,q2,q3⟩
    · exact hs.av i cs l q2 (by rw[<-h5 i q1];exact g2)
    exact h6.av i cs l q3 g2
  refine⟨u,r,L',BB,H2,h1,hk BB H2 r ids h3 CD ⟨h2.AJ Xy,D9,Ny⟩,h3,h4,h5,Ln,ER,h8.fl (λ_ _ h=>h) bO⟩
theorem ga0(x d:Value):(#[x]:Array Value).getD 0 d=x:=rfl
theorem gs1(x:Value):(#[x]:Array Value).size=1:=rfl
def sl(n:Nat)(kv:List (Nat×AV)):List AV:=kv.foldl (λl p=>l.set p.1 p.2) (List.replicate n .j)
def ints(xs:List Int):AV:= .v xs.length (xs.map (.i .i64))
def rows(xs:List (List Int)):AV:= .v xs.length (xs.map ints)
def A6(xs:List (List (List Int))):AV:= .v xs.length (xs.map rows)
theorem AR{n:Int}(h0: -9223372036854775808<=n)(h1:n<=9223372036854775807):IntKind.wrap .i64 n=n:=wrap_i64 h0 h1
theorem Ow.ints{H:HP}{id:Nat}{xs:List Int}{n:Nat}(h:H id=some (xs.map (.i .i64)))(hn:n=xs.length):Ow H (.h id 0 n) (Go.Proofs.YtgknbnkmilddhaaGreat.ints xs) [id]:=by
  have:=Ow.h id _ _ [] h (IH.leaves (λx hx=>by
    obtain⟨y,_,rfl⟩:=List.mem_map.1 hx;exact⟨.i _ _,.i _ _⟩))
  rw[List.length_map]at this;rw[hn];exact this
theorem Own.ints{nx BB:Nat}{H:HP}{id:Nat}{xs:List Int}{n:Nat}(h:H id=some (xs.map (.i .i64)))(hn:n=xs.length)(h1:nx<=id)(h2:id<BB):Own nx BB H (.h id 0 n) (Go.Proofs.YtgknbnkmilddhaaGreat.ints xs) [id]:=
  ⟨Ow.ints h hn,AB,by simp;omega⟩
theorem bP{α:Type}(f:α->AV)(xs:List α)(d:α){k:Nat}(h:k<xs.length):(xs.map f).getD k .j=f (xs.getD k d):=by
  simp[h]
theorem AA5{p q:Prop}(h:p):(p/\q)=q:=propext ⟨λh=>h.2,λhq=>⟨h,hq⟩⟩
theorem AL{xs:List Int}{k:Nat}(h:k<xs.length):(xs.map (AV.i .i64)).getD k .j= .i .i64 (xs.getD k 0):=bP _ xs 0 h
theorem BN{xs:List (List Int)}{k:Nat}(h:k<xs.length):(xs.map Go.Proofs.YtgknbnkmilddhaaGreat.ints).getD k .j=Go.Proofs.YtgknbnkmilddhaaGreat.ints (xs.getD k []):=bP _ xs [] h
theorem DT{xs:List (List (List Int))}{k:Nat}(h:k<xs.length):(xs.map rows).getD k .j=rows (xs.getD k []):=bP _ xs [] h
theorem c_i(k:IntKind)(n:Int):CN (.i k n)=[.i k n]:=rfl
theorem c_b(x:Bool):CN (.b x)=[.b x]:=rfl
theorem c_s(x:ByteArray):CN (.s x)=[.s x]:=rfl
theorem c_v(n:Nat)(cs:List AV):CN (.v n cs)=[.v n cs]:=rfl
theorem c_p(n:Nat)(cs:List AV):CN (.p n cs)=[.p n cs]:=rfl
theorem c_h(a b c:Nat):CN (.h a b c)=[.h a b c]:=rfl
theorem c_g(cs:List AV):CN (.g cs)=cs:=rfl
theorem o_i(k:IntKind)(n:Int):one (.i k n)=true:=rfl
theorem AA6:one .nl=true:=rfl
theorem o_v(n:Nat)(cs:List AV):one (.v n cs)=true:=rfl
theorem o_p(n:Nat)(cs:List AV):one (.p n cs)=true:=rfl
theorem o_h(a b c:Nat):one (.h a b c)=true:=rfl
theorem k_i(k:IntKind)(n:Int):fU (.i k n)=true:=rfl
theorem k_b(x:Bool):fU (.b x)=true:=rfl
theorem k_s(x:ByteArray):fU (.s x)=true:=rfl
theorem k_v(n:Nat)(cs:List AV):fU (.v n cs)=true:=rfl
theorem k_p(n:Nat)(cs:List AV):fU (.p n cs)=true:=rfl
theorem k_h(a b c:Nat):fU (.h a b c)=true:=rfl
theorem k_g(cs:List AV):fU (.g cs)=cs.all one:=rfl
theorem sp0(a x:AV)(Zz xs:List AV):B3 (a::Zz) 0 (x::xs)=x::B3 Zz 0 xs:=by
  simp[B3]
theorem spn(cs:List AV)(o:Nat):B3 cs o []=cs:=by simp[B3]
theorem sp1(a:AV)(Zz xs:List AV)(n:Nat):B3 (a::Zz) (n+1) xs=a::B3 Zz n xs:=by
  simp[B3,Nat.add_right_comm]
theorem EW(cs:List AV)(k:Nat)(x:AV)(h:k<cs.length):B3 cs k [x]=cs.set k x:=by
  apply List.ext_getElem?;intro i;rw[PR _ _ _ (by simp;omega),List.getElem?_set];by_cases hi:k=i
  · subst hi;simp[h]
  rw[if_neg hi,if_neg (by simp;omega)]
attribute [go_sem] AR
end Go.Proofs.YtgknbnkmilddhaaGreat

namespace Go.Proofs.YtgknbnkmilddhaaGreat
open Go.Deep Go.ChangeShapes Go.WideShapes
def Un:LM:=λ_=>none
def Uo:Nat->Prop:=λ_=>False
section
variable{T:Type}{enc:TypeId×Value->T}{P:Program}{w:World}{sp:Nat->Bool}{held:Bool}
theorem Cx{α:Type}[Inhabited α]{f:α->AV}{ok:α->Prop}{t e:TypeId}{fuel:Nat}{v:Value}{x:DataW T×List MemPlace}(ht:P.underlying t=some (.slice e))(hc:P.cellsOf e=1)
    (yI:∀n u y,DataW.trod enc P w 0 sp held n e [u]=some y->∃z:α,R Un w Uo (f z) u/\ok z) (h:DataW.trod enc P w 0 sp held fuel t [v]=some x):
    ∃xs:List α,R Un w Uo (.v xs.length (xs.map f)) v/\xs.length<=maxLen/\∀y∈xs,ok y:=by
  rcases open_slice1 ht hc h with ⟨h1,_⟩|⟨a,len,cap,m,n,V,D,Pl,h1,_,hl,hcm,hm,_,hx⟩
  · simp only[List.cons.injEq,and_true]at h1;subst h1;exact⟨[],.v0 _ _,Nat.zero_le _,AB⟩
  simp only[List.cons.injEq,and_true]at h1;subst h1;have Xm:len<=m:=by rw[hm];split<;>omega
  have hz:∀i,i<len->∃z:α,R Un w Uo (f z) (V i)/\ok z:=λi hi=>yI n _ _ (hx i A0).2
  obtain⟨Z,hZ⟩:=choose_lt (α:=α) (p:=λi z=>R Un w Uo (f z) (V i)/\ok z) hz;refine⟨(List.range len).map Z,?_,by simp;omega,?_⟩
  · simp only[List.length_map,List.length_range];by_cases h0:len=0
    · subst h0;exact .v0 _ _
    obtain⟨b,off,spot⟩:=a;have Ld:=(hx 0 A0).1;have A46:spot=none:=by simpa[Addr.add]using World.cell?_spot Ld
    subst A46;have F7:∀i,i<len->w.cell? ⟨b,off+i,none⟩=some (V i):=λi hi=>by
      have:=(hx i A0).1;rwa [HO]at this
    have hb:=F7 0 A0;unfold World.cell? at hb;simp only at hb
    cases jQ:w.heap[b]? with
    |none=>rw[jQ]at hb;cases hb
    | some o=>
      rw[jQ]at hb;cases o with
      | cells arr et fr=>
        refine .v len _ b off cap arr et fr V (λh=>h) jQ hl ?_ ?_
        · intro k hk;simp only[List.length_map,List.length_range]at hk;have:=F7 k hk;unfold World.cell? at this;simp only[jQ]at this;simpa using this
        intro k y hk;simp only[List.map_map,List.getElem?_map,Option.map_eq_some_iff,List.getElem?_range,Function.comp]at hk;obtain⟨i,h5,h6⟩:=hk;have hi:=List.getElem?_eq_some_iff.1 h5;simp only[List.getElem_range,List.length_range]at hi;obtain⟨h7,h8⟩:=hi;subst h8;rw[<-h6];exact(hZ k h7).1
      |_=>cases hb
  intro y hy;obtain⟨i,h5,h6⟩:=List.mem_map.1 hy;rw[<-h6];exact(hZ i (List.mem_range.1 h5)).2
theorem Nz{f:FuncId}{Zz:List AV}{us:Array Value}(h:BI P f Zz (.b true))(ha:ID Un w Uo Zz us):Calls P f us w λe w'=>e= .returned (.bool true)/\RowKit.Below w.heap.size w w':=by
  refine(h.2 Un Uo w us (λ_ h=>h.elim) ⟨0,λ_ _=>rfl⟩ ha).mono ?_;rintro e w' ⟨u,h1,h2,h3⟩;rw[h3.XY]at h1;exact⟨h1,h2.os,h2.tape,h2.output.1,h2.size,λk hk=>h2.AJ k hk JK⟩
end
attribute [go_sem] AR
end Go.Proofs.YtgknbnkmilddhaaGreat

namespace Go.Proofs.YtgknbnkmilddhaaGreat
theorem Ow.slice{H:HP}{r:AV}{n:Nat}{ts:List AV}{ids:List Nat}(h:Ow H r (.v n ts) ids):CN r=[r]/\one r=true/\fU r=true:=by
  cases h<;>exact⟨rfl,rfl,rfl⟩

mutual
theorem Ow.nr{H:HP}{r X:AV}{ids:List Nat}(h:Ow H r X ids):NR X:=by
  cases h with
  |leaf _ hf hn=>exact hn
  |nl=>exact .v _ _ AB
  |h id cs ts ids h1 h2=>exact .v _ _ h2.nr
  |q id cs ts ids h1 h2=>exact .p _ _ h2.nr
  |g cs ts ids h2=>exact .g _ h2.nr
  |t cs ts ids h2=>exact .t _ h2.nr
theorem IH.nr{H:HP}{cs ts:List AV}{ids:List Nat}(h:IH H cs ts ids):∀(k:Nat) (x:AV),ts[k]? =some x->NR x:=by
  cases h with
  |nil=>intro k x hk;simp at hk
  | cons x y xs ys is js h1 h2=>
    intro k z hk;cases k with
    |zero=>simp at hk;subst hk;exact h1.nr
    |succ k=>exact h2.nr k z (by simpa using hk)
end
theorem gE.pure{P:Program}{f:FuncId}{Zz:List AV}{X:AV}(h:gE P f Zz X):BI P f Zz X:=by
  refine⟨(h 0).1,λL M w us hM ⟨n,hn⟩ ha=>((h n).2 L M w us (WI hM) hn (by rw[WJ];exact ha)).mono ?_⟩;rintro e w' ⟨u,r,L',BB,H',h1,⟨ids,h2,_⟩,h3,h4,h5,h6,h7,h8⟩;exact⟨u,h1,⟨λ_ _ h=>h,h7.os,h7.tape,h7.output,h7.size,h7.AJ,λb _ hb=>absurd hb JK⟩,(h2.vw.sound h6 h8).nr h2.nr⟩
theorem Own.AJ{a b a' b':Nat}{H H':HP}{r X:AV}{ids:List Nat}(h:Own a b H r X ids)(hk:∀i,a<=i->i<b->H' i=H i)(ha:a'<=a)(hb:b<=b'):Own a' b' H' r X ids:=
  ⟨h.1.AJ λi hi=>hk i (h.2.2 i hi).1 (h.2.2 i hi).2,h.2.1,λi hi=>by have:=h.2.2 i hi;omega⟩
attribute [go_sem] AR
end Go.Proofs.YtgknbnkmilddhaaGreat

namespace Go.Proofs.YtgknbnkmilddhaaGreat
variable{P:Program}{Γ:CA}
theorem nE{α:Type}(a:α)(f:α->Prop):S5 (some a) f=f a:=by simp[S5]
@[congr] theorem AA7 {α:Type} {o o':Option α} (f:α->Prop) (h:o=o'):S5 o f=S5 o' f:=by rw[h]
@[congr] theorem A9K {ops rest:List Oper} {base i:Nat} {s s':St} {K:St->Prop} (h:s=s'):DW Γ P ops base rest i s K=DW Γ P ops base rest i s' K:=by rw[h]
@[congr] theorem A9L {ops rest:List Oper} {base i:Nat} {t t':List AV} {H H':HP} {k:List AV->HP->Prop} (h:t=t') (h2:H=H'):E8 Γ P ops base rest i t H k=E8 Γ P ops base rest i t' H' k:=by rw[h,h2]
@[congr] theorem A9M {H:HP} {x x':AV} {xs xs':List AV} {id:Nat} {k:AV->HP->Prop} (h:x=x') (h2:xs=xs'):U9 H x xs id k=U9 H x' xs' id k:=by rw[h,h2]
@[congr] theorem ADQ {f:FuncId} {H H':HP} {Zz Xz:List AV} {r:AV} (h:H=H') (h2:Zz=Xz):RC P f H Zz r=RC P f H' Xz r:=by rw[h,h2]
theorem AA8{α:Type}{x d:α}{xs:List α}{n:Nat}:(x::xs).getD (n+1) d=xs.getD n d:=AB
theorem AA9{α:Type}{x d:α}{xs:List α}:(x::xs).getD 0 d=x:=AB
theorem AAA{α:Type}{x:α}{xs:List α}{n:Nat}:(x::xs)[n+1]? =xs[n]? :=AB
theorem AAB{α:Type}{x:α}{xs:List α}:(x::xs)[0]? =some x:=AB
theorem AAC{α:Type}{x y:α}{xs:List α}{n:Nat}:(x::xs).set (n+1) y=x::xs.set n y:=AB
theorem AAD{α:Type}{x y:α}{xs:List α}:(x::xs).set 0 y=y::xs:=AB
def UF(ops:List Oper)(j:Nat):Option Nat:=(ops[j]?).bind (·.dst)
theorem A47{dst:Option Nat}{op:Op}{ty:TypeId}{pos:String}{after:Array Edge}{g:Option (Nat×Bool)}{ops:List Oper}:UF (⟨dst,op,ty,pos,after,g⟩::ops) 0=dst:=by simp[UF]
theorem A48{o:Oper}{ops:List Oper}{j:Nat}:UF (o::ops) (j+1)=UF ops j:=by simp[UF]
def nF(v:Option AV)(d:Nat)(w:Bool)(t:List AV)(y n:List AV->Prop):Prop:=
  match v with
  |some (.b x)=>CH x w (y (t.set d (.b w))) (n (t.set d (.b (!w)))) (.mk _) (.mk _)
  |some (.c (.tuple _))=>n t
  |_=>False
def qZ(o:Option Nat)(w:Bool)(t:List AV)(y n:List AV->Prop):Prop:=
  match o with
  |some d=>nF t[d]? d w t y n
  |none=>False
theorem gD{d:Nat}{w:Bool}{t:List AV}{y n:List AV->Prop}:qZ (some d) w t y n=nF t[d]? d w t y n:=rfl
theorem gV1{x:Bool}{d:Nat}{w:Bool}{t:List AV}{y n:List AV->Prop}:nF (some (.b x)) d w t y n=CH x w (y (t.set d (.b w))) (n (t.set d (.b (!w)))) (.mk _) (.mk _):=rfl
theorem gV2{vs:Array Value}{d:Nat}{w:Bool}{t:List AV}{y n:List AV->Prop}:nF (some (.c (.tuple vs))) d w t y n=n t:=rfl
@[congr] theorem A9N {o o':Option Nat} {w:Bool} {t:List AV} {y n:List AV->Prop} (h:o=o'):qZ o w t y n=qZ o' w t y n:=by rw[h]
@[congr] theorem A9O {v v':Option AV} {d:Nat} {w:Bool} {t:List AV} {y n:List AV->Prop} (h:v=v'):nF v d w t y n=nF v' d w t y n:=by rw[h]
theorem Ya{ops:List Oper}{base i:Nat}{s:St}{K:St->Prop}:DW Γ P ops base [] i s K=K s:=rfl
theorem Yb{ops rest:List Oper}{base i:Nat}{s:St}{K:St->Prop}{dst:Option Nat}{op:Op}{ty:TypeId}{pos:String}{after:Array Edge}:
    DW Γ P ops base (⟨dst,op,ty,pos,after,none⟩::rest) i s K=IG Γ P dst op (base+i) s (λs'=>DW Γ P ops base rest (i+1) s' K):=rfl
theorem A49{ops rest:List Oper}{base i j:Nat}{w:Bool}{t:List AV}{H:HP}{nx:Nat}{K:St->Prop}{dst:Option Nat}{op:Op}{ty:TypeId}{pos:String}{after:Array Edge}:
    DW Γ P ops base (⟨dst,op,ty,pos,after,some (j,w)⟩::rest) i ⟨t,H,nx⟩ K=qZ (UF ops j) w t (λt=>IG Γ P dst op (base+i) ⟨t,H,nx⟩ λs'=>DW Γ P ops base rest (i+1) s' K) (λt=>DW Γ P ops base rest (i+1) ⟨BG t dst (.c undef),H,nx⟩ K):=by
  simp only[DW,Lk,qZ,nF,UF];cases (ops[j]?).bind (·.dst)with
  |none=>rfl
  | some d=>cases t[d]? with
    |none=>rfl
    |some v=>cases v<;>rfl
theorem BE{ops:List Oper}{base i:Nat}{t:List AV}{H:HP}{k:List AV->HP->Prop}:E8 Γ P ops base [] i t H k=k t H:=rfl
theorem BF{ops rest:List Oper}{base i:Nat}{t:List AV}{H:HP}{k:List AV->HP->Prop}{dst:Option Nat}{op:Op}{ty:TypeId}{pos:String}{after:Array Edge}:
    E8 Γ P ops base (⟨dst,op,ty,pos,after,none⟩::rest) i t H k=RF Γ P op t H (base+i) λr d=>E8 Γ P ops base rest (i+1) (BG t dst r) (HN H (base+i) d) k:=rfl
theorem BW{ops rest:List Oper}{base i j:Nat}{w:Bool}{t:List AV}{H:HP}{k:List AV->HP->Prop}{dst:Option Nat}{op:Op}{ty:TypeId}{pos:String}{after:Array Edge}:
    E8 Γ P ops base (⟨dst,op,ty,pos,after,some (j,w)⟩::rest) i t H k=qZ (UF ops j) w t (λt=>RF Γ P op t H (base+i) λr d=>E8 Γ P ops base rest (i+1) (BG t dst r) (HN H (base+i) d) k) (λt=>E8 Γ P ops base rest (i+1) (BG t dst (.c undef)) H k):=by
  simp only[E8,Lk,qZ,nF,UF];cases (ops[j]?).bind (·.dst)with
  |none=>rfl
  | some d=>cases t[d]? with
    |none=>rfl
    |some v=>cases v<;>rfl
theorem rA{cX:Ctx}(hG:IB P Γ){n:Nat}{ops:List Oper}{s:St}{K:Exit->St->Prop}(h:DW Γ P ops s.nx ops 0 ⟨s.t,s.H,s.nx+ops.length⟩ (K .normal)):AW cX P (.region n ops.toArray false) s K:=
  AW.region hG h
theorem AW.sr{cX:Ctx}(hG:IB P Γ){n:Nat}{ops:List Oper}{y:Code}{s:St}{K:Exit->St->Prop}(h:∀N:St->Prop,(∀s',AW cX P y s' K->N s')->DW Γ P ops s.nx ops 0 ⟨s.t,s.H,s.nx+ops.length⟩ N):AW cX P (.seq (.region n ops.toArray false) y) s K:=
  AW.seq λN hN=>AW.region hG (h N hN)
theorem AM{cX:Ctx}(hG:IB P Γ)(Xx:P.follows .mixedOrders=true){n:Nat}{ops:List Oper}{s:St}{K:Exit->St->Prop}(m:Nat)(hd:dok ops m=true)
    (h:E8 Γ P ops s.nx (ops.take m) 0 s.t s.H λt H'=>DW Γ P ops s.nx (ops.drop m) m ⟨t,H',s.nx+ops.length⟩ (K .normal)):AW cX P (.region n ops.toArray true) s K:=
  Nx hG Xx m hd h
theorem A8{cX:Ctx}{c:Code}{s:St}{K:Exit->St->Prop}{α:Type}(T:α->List AV)(H:α->HP)(I:α->Nat->Prop)(μ:α->Nat)(x0:α)(h0:I x0 s.nx)(ht:AN s.t (T x0))(hH:∀id cs,H x0 id=some cs->s.H id=some cs)
    (round:∀x m,I x m->AW cX P c ⟨T x,H x,m⟩ (qW K λs'=>∃y,AN s'.t (T y)/\(∀id cs,H y id=some cs->s'.H id=some cs)/\I y s'.nx/\μ y<μ x)):AW cX P (.loop c) s K:=
  AW.loop (α:=α×Nat) (λx=>⟨T x.1,H x.1,x.2⟩) (λx=>I x.1 x.2) (λx=>μ x.1) (x0,s.nx) h0 ⟨ht,hH,Nat.le_refl _⟩
    (λx hx=>(round x.1 x.2 hx).mono (λe s' h=>by
      cases e<;>simp only[qW]at h ⊢
      case normal=>obtain⟨y,h1,h2,h3,h4⟩:=h;exact⟨(y,s'.nx),⟨h1,h2,Nat.le_refl _⟩,h3,h4⟩
      all_goals exact h))
end Go.Proofs.YtgknbnkmilddhaaGreat

namespace Go.Proofs.YtgknbnkmilddhaaGreat
theorem A4A{t:List AV}{n:Nat}:BQ t (.tmp n)=t.getD n .j:=by simp[BQ]
theorem A4B{t:List AV}{x:Value}:BQ t (.const x)=YM x:=by simp[BQ]
theorem A4C{t:List AV}{n:FuncId}:BQ t (.func n)= .f n []:=by simp[BQ]
theorem A4D{k:IntKind}{n:Int}:YM (.int k n)= .i k n:=by simp[YM,F6]
theorem A4E{x:Bool}:YM (.bool x)= .b x:=by simp[YM,F6]
theorem A4F{x:ByteArray}:YM (.string x)= .s x:=by simp[YM,F6]
theorem Yc:YM (.slice none 0 0)= .nl:=by simp[YM,F6]
theorem Yd{k:IntKind}{n:Int}:F6 (.int k n)= .i k n:=by simp[F6]
theorem Ye{x:Bool}:F6 (.bool x)= .b x:=by simp[F6]
theorem Yf{x:ByteArray}:F6 (.string x)= .s x:=by simp[F6]
theorem Oa:F6 (.slice none 0 0)= .nl:=by simp[F6]
theorem Yg{t:List AV}{d:Nat}{x:AV}:BG t (some d) x=t.set d x:=by simp[BG]
theorem Yh{t:List AV}{x:AV}:BG t none x=t:=by simp[BG]
theorem Yi{H:HP}{id:Nat}{cs:List AV}:HN H id (some cs)=AT H id (some cs):=by simp[HN]
theorem Yj{H:HP}{id:Nat}:HN H id none=H:=by simp[HN]
attribute [go_sem] A4A A4B A4C A4D A4E A4F Yc Yd Ye Yf Oa Yg Yh Yi Yj
inductive Tf {α:Type}:(α->Prop)->Type
  |mk (f:α->Prop):Tf f
inductive Tq:(Nat->HP->AV->Prop)->Type
  |mk (f:Nat->HP->AV->Prop):Tq f
def Yk{α:Type}(p f:α->Prop)(t:Tf f):Prop:=ex2 p f
def ACt(P:Program)(f:FuncId)(nx:Nat)(H:HP)(Zz:List AV)(Q:Nat->HP->AV->Prop)(t:Tq Q):Prop:=AC P f nx H Zz Q
@[congr] theorem A9P {α:Type} {p p' f:α->Prop} {t:Tf f} (h:∀a,p a=p' a):Yk p f t=Yk p' f t:=by rw[funext h]
@[congr] theorem AAE {P:Program} {f:FuncId} {nx BB:Nat} {H H':HP} {Zz Xz:List AV} {Q:Nat->HP->AV->Prop} {t:Tq Q} (h1:nx=BB) (h:H=H') (h2:Zz=Xz):ACt P f nx H Zz Q t=ACt P f BB H' Xz Q t:=by rw[h1,h,h2]
section
variable{P:Program}{Γ:CA}{t:List AV}{H:HP}{id:Nat}{k:AV->Option (List AV)->Prop}
theorem Yl{x:Operand}:RF Γ P (.move x) t H id k=k (BQ t x) none:=rfl
theorem Cz{x:Operand}:RF Γ P (.assign x) t H id k=k (BQ t x) none:=rfl
def nH(v:AV)(y n:Prop)(a:Tg y)(b:Tg n):Prop:=match v with
  | .b z=>mZ z y n a b
  |_=>False
theorem pV{z:Bool}{y n:Prop}{a:Tg y}{b:Tg n}:nH (.b z) y n a b=mZ z y n a b:=rfl
theorem Ym{c x y:Operand}:RF Γ P (.pick c x y) t H id k=nH (BQ t c) (k (BQ t x) none) (k (BQ t y) none) (.mk _) (.mk _):=by
  simp only[RF,nH];cases BQ t c<;>rfl
theorem A4G{op:BinOp}{ty ty':TypeId}{x y:Operand}:RF Γ P (.binOp op ty x y ty') t H id k=bop Γ op ty (BQ t x) (BQ t y) λr=>k r none:=rfl
theorem AAF{op:UnOp}{ty:TypeId}{x:Operand}:RF Γ P (.unOp op ty x) t H id k=uop op (BQ t x) λr=>k r none:=rfl
theorem Yn{a b:TypeId}{x:Operand}:RF Γ P (.convert a b x) t H id k=cop Γ a b (BQ t x) λr=>k r none:=rfl
theorem Yo{ty:TypeId}{x:Operand}:RF Γ P (.load ty x) t H id k=Mj Γ H ty (BQ t x) λr=>k r none:=rfl
theorem A4H{ty:TypeId}{x:Operand}{f:Nat}:RF Γ P (.fieldAddr ty x f) t H id k=fop Γ ty f λoff=>qO (BQ t x) off λr=>k r none:=rfl
theorem A4I{ty:TypeId}{x i:Operand}:RF Γ P (.indexAddr ty x i) t H id k=iop Γ ty (BQ t x) (BQ t i) λr=>k r none:=rfl
theorem Ob{ty:TypeId}{x:Operand}{lo hi:Option Operand}:RF Γ P (.slice ty x lo hi none) t H id k=sop Γ ty (BQ t x) (lo.map (BQ t)) (hi.map (BQ t)) λr=>k r none:=rfl
theorem A4J{x:Operand}{n:Nat}:RF Γ P (.extract x n) t H id k=eop (BQ t x) n λr=>k r none:=rfl
theorem A4K{x:Operand}:RF Γ P (.nilCheck x) t H id k=nop (BQ t x) λr=>k r none:=rfl
theorem AAG{ty:TypeId}{x i:Operand}:RF Γ P (.index ty x i) t H id k=jF Γ ty (BQ t x) (BQ t i) λr=>k r none:=rfl
theorem AAH{ty:TypeId}{n:Nat}{ps:Array (Nat×Operand)}:RF Γ P (.buildSlice ty n ps) t H id k=fX Γ ty n (ps.toList.map λ(i,x)=>(i,BQ t x)) id k:=rfl
def alV(o:Option TE)(id:Nat)(k:AV->Option (List AV)->Prop):Prop:=match o with
  |some e=>k (.q id 0) (some (KL e))
  |none=>False
theorem aV{e:TE}:alV (some e) id k=k (.q id 0) (some (KL e)):=rfl
@[congr] theorem AAI {o o':Option TE} (h:o=o'):alV o id k=alV o' id k:=by rw[h]
@[congr] theorem A4L {v v':AV} {y n:Prop} {a:Tg y} {b:Tg n} (h:v=v'):nH v y n a b=nH v' y n a b:=by rw[h]
theorem uV{ty:TypeId}:RF Γ P (.alloc ty) t H id k=alV (Γ ty) id k:=by simp only[RF,alV];cases Γ ty<;>rfl
def A4M(v:AV)(id:Nat)(k:AV->Option (List AV)->Prop):Prop:=fU v=true/\k (.q id 0) (some (CN v))
theorem A4N{x:Operand}{ty:TypeId}{ED:List TypeId}:RF Γ P (.call ⟨.builtin .len,[x].toArray,(ty::ED).toArray⟩) t H id k=XX Γ ty (BQ t x) λr=>k r none:=rfl
theorem Yp{f:FuncId}{args:Array Operand}{ED:Array TypeId}:RF Γ P (.call ⟨.value (.func f),args,ED⟩) t H id k=Yk (λr=>RC P f H (args.toList.map (BQ t)) r) (λr=>k r none) (.mk _):=rfl
theorem fV{f:Nat}{cs:List AV}{k:Nat->List AV->Prop}:Nc (.f f cs) k=k f cs:=rfl
@[congr] theorem AAJ {v v':AV} {k:Nat->List AV->Prop} (h:v=v'):Nc v k=Nc v' k:=by rw[h]
theorem mfV{f:FuncId}{cs:List AV}{k:AV->Prop}:yE (.func f) [] cs k=k (.f f cs):=rfl
@[congr] theorem A9Q {fn:Fn} {a:List Operand} {cs CT:List AV} {k:AV->Prop} (h:cs=CT):yE fn a cs k=yE fn a CT k:=by rw[h]
variable{s:St}{K:St->Prop}{dst:Option Nat}
theorem Od{n:Nat}{args:Array Operand}{ED:Array TypeId}:IG Γ P dst (.call ⟨.value (.tmp n),args,ED⟩) id s K=Nc (BQ s.t (.tmp n)) λf cs=>ACt P f s.nx s.H (args.toList.map (BQ s.t)++cs) (λBB H' r=>K ⟨BG s.t dst r,H',BB⟩) (.mk _):=rfl
theorem AAK{fn:Fn}{a b:Array Operand}:IG Γ P dst (.makeFunc fn a b) id s K=yE fn a.toList (b.toList.map (BQ s.t)) λr=>K ⟨BG s.t dst r,s.H,s.nx⟩:=rfl
theorem Yq{x:Operand}:IG Γ P dst (.move x) id s K=K ⟨BG s.t dst (BQ s.t x),s.H,s.nx⟩:=rfl
theorem Da{x:Operand}:IG Γ P dst (.assign x) id s K=K ⟨BG s.t dst (BQ s.t x),s.H,s.nx⟩:=rfl
theorem Yr{c x y:Operand}:IG Γ P dst (.pick c x y) id s K=RF Γ P (.pick c x y) s.t s.H id λr d=>K ⟨BG s.t dst r,HN s.H id d,s.nx⟩:=rfl
theorem A4O{op:BinOp}{ty ty':TypeId}{x y:Operand}:IG Γ P dst (.binOp op ty x y ty') id s K=nB Γ op ty (BQ s.t x) (BQ s.t y) λr=>K ⟨BG s.t dst r,s.H,s.nx⟩:=rfl
theorem AAL{op:UnOp}{ty:TypeId}{x:Operand}:IG Γ P dst (.unOp op ty x) id s K=uop op (BQ s.t x) λr=>K ⟨BG s.t dst r,s.H,s.nx⟩:=rfl
theorem Ys{a b:TypeId}{x:Operand}:IG Γ P dst (.convert a b x) id s K=Cl Γ s.H a b (BQ s.t x) λr=>K ⟨BG s.t dst r,s.H,s.nx⟩:=rfl
theorem Yt{ty:TypeId}{x:Operand}:IG Γ P dst (.load ty x) id s K=Mj Γ s.H ty (BQ s.t x) λr=>K ⟨BG s.t dst r,s.H,s.nx⟩:=rfl
theorem A4P{ty:TypeId}{x:Operand}{f:Nat}:IG Γ P dst (.fieldAddr ty x f) id s K=fop Γ ty f λoff=>qO (BQ s.t x) off λr=>K ⟨BG s.t dst r,s.H,s.nx⟩:=rfl
theorem A4Q{ty:TypeId}{x i:Operand}:IG Γ P dst (.indexAddr ty x i) id s K=iop Γ ty (BQ s.t x) (BQ s.t i) λr=>K ⟨BG s.t dst r,s.H,s.nx⟩:=rfl
theorem Oe{ty:TypeId}{x:Operand}{lo hi:Option Operand}:IG Γ P dst (.slice ty x lo hi none) id s K=sop Γ ty (BQ s.t x) (lo.map (BQ s.t)) (hi.map (BQ s.t)) λr=>K ⟨BG s.t dst r,s.H,s.nx⟩:=rfl
theorem A4R{x:Operand}{n:Nat}:IG Γ P dst (.extract x n) id s K=eop (BQ s.t x) n λr=>K ⟨BG s.t dst r,s.H,s.nx⟩:=rfl
theorem A4S{x:Operand}:IG Γ P dst (.nilCheck x) id s K=nop (BQ s.t x) λr=>K ⟨BG s.t dst r,s.H,s.nx⟩:=rfl
theorem Of{ty:TypeId}{ps:Array (Nat×Operand)}:IG Γ P dst (.build ty ps) id s K=yC Γ ty (ps.toList.map λ(i,x)=>(i,BQ s.t x)) λr=>K ⟨BG s.t dst r,s.H,s.nx⟩:=rfl
theorem Db{ty:TypeId}{n:Nat}{ps:Array (Nat×Operand)}:IG Γ P dst (.buildSlice ty n ps) id s K=fX Γ ty n (ps.toList.map λ(i,x)=>(i,BQ s.t x)) id λr d=>K ⟨BG s.t dst r,HN s.H id d,s.nx⟩:=rfl
theorem AAM{ty:TypeId}{x y:Operand}:IG Γ P dst (.makeSlice ty x y) id s K=Bu Γ ty (BQ s.t x) (BQ s.t y) id λr d=>K ⟨BG s.t dst r,HN s.H id d,s.nx⟩:=rfl
theorem Og{ty:TypeId}:IG Γ P dst (.alloc ty) id s K=alV (Γ ty) id λr d=>K ⟨BG s.t dst r,HN s.H id d,s.nx⟩:=by
  rw[<-uV (P:=P) (t:=s.t) (H:=s.H)];rfl
theorem A4T{ty:TypeId}{x:Operand}:IG Γ P dst (.box ty x) id s K=A4M (BQ s.t x) id λr d=>K ⟨BG s.t dst r,HN s.H id d,s.nx⟩:=rfl
theorem AAN{ty:TypeId}{x:Operand}{f:Nat}:IG Γ P dst (.field ty x f) id s K=Bk Γ ty (BQ s.t x) f λr=>K ⟨BG s.t dst r,s.H,s.nx⟩:=rfl
theorem A4U{x y:Operand}{ED:Array TypeId}:IG Γ P dst (.call ⟨.builtin .max,[x,y].toArray,ED⟩) id s K=Bm (BQ s.t x) (BQ s.t y) λr=>K ⟨BG s.t dst r,s.H,s.nx⟩:=rfl
theorem A4V{x y:Operand}{ED:Array TypeId}:IG Γ P dst (.call ⟨.builtin .min,[x,y].toArray,ED⟩) id s K=Bl (BQ s.t x) (BQ s.t y) λr=>K ⟨BG s.t dst r,s.H,s.nx⟩:=rfl
theorem A4W{x:Operand}{ty:TypeId}{ED:List TypeId}:IG Γ P dst (.call ⟨.builtin .cap,[x].toArray,(ty::ED).toArray⟩) id s K=mR Γ ty (BQ s.t x) λr=>K ⟨BG s.t dst r,s.H,s.nx⟩:=rfl
theorem Up{x:Operand}{ty:TypeId}{ED:List TypeId}:IG Γ P dst (.call ⟨.builtin .len,[x].toArray,(ty::ED).toArray⟩) id s K=XX Γ ty (BQ s.t x) λr=>K ⟨BG s.t dst r,s.H,s.nx⟩:=rfl
theorem Yu{f:FuncId}{args:Array Operand}{ED:Array TypeId}:IG Γ P dst (.call ⟨.value (.func f),args,ED⟩) id s K=ACt P f s.nx s.H (args.toList.map (BQ s.t)) (λBB H' r=>K ⟨BG s.t dst r,H',BB⟩) (.mk _):=rfl
theorem Oh{ty:TypeId}{x y:Operand}:IG Γ P dst (.store ty x y) id s K=stop Γ s.H ty (BQ s.t x) (BQ s.t y) λr H'=>K ⟨BG s.t dst r,H',s.nx⟩:=rfl
theorem Dc{x y:Operand}{t1 t2:TypeId}:IG Γ P dst (.call ⟨.builtin .append,[x,y].toArray,[t1,t2].toArray⟩) id s K=Bw Γ s.H t1 t2 (BQ s.t x) (BQ s.t y) id λr H'=>K ⟨BG s.t dst r,H',s.nx⟩:=rfl
theorem AAO{ty:TypeId}:IG Γ P dst (.makeMap ty none) id s K=uG id (λr H'=>K ⟨BG s.t dst r,H',s.nx⟩) s.H:=rfl
theorem AAP{ty:TypeId}{x i:Operand}{ok:Bool}:IG Γ P dst (.lookup ty x i ok) id s K=Ch Γ s.H ty (BQ s.t x) (BQ s.t i) ok λr=>K ⟨BG s.t dst r,s.H,s.nx⟩:=rfl
theorem AAQ{ty:TypeId}{x i v:Operand}:IG Γ P dst (.mapUpdate ty x i v) id s K=qT Γ s.H ty (BQ s.t x) (BQ s.t i) (BQ s.t v) λr H'=>K ⟨BG s.t dst r,H',s.nx⟩:=rfl
theorem A4X{ty:TypeId}{x i v:Operand}:IG Γ P dst (.insert ty x i v) id s K=qT Γ s.H ty (BQ s.t x) (BQ s.t i) (BQ s.t v) λr H'=>K ⟨BG s.t dst r,H',s.nx⟩:=rfl
theorem AAR{ty:TypeId}{x i:Operand}:IG Γ P dst (.index ty x i) id s K=jF Γ ty (BQ s.t x) (BQ s.t i) λr=>K ⟨BG s.t dst r,s.H,s.nx⟩:=rfl
end
attribute [go_sem] Cl jN jF cpop uG Ch qT Nh Ni Nj bH fZ dec Ci
attribute [go_sem ↓] AAR AAO AAP AAQ A4X
attribute [go_sem] Bk Mi mR Bm Bl fV mfV nB Int.toNat_zero Nat.sub_zero Option.getD_some Option.getD_none pV aV A4M BE BF BW List.drop_nil
attribute [go_sem ↓] Yl Cz Ym A4G AAF AAG Yn Yo A4H A4I Ob A4J A4K AAH uV A4N Yp Yq Da Yr A4O AAL Ys Yt A4P A4Q Oe A4R A4S Of Db AAM Og A4T Up A4W A4U A4V AAN Yu Od AAK Oh Dc
attribute [go_sem ↓] gB1 gB2 gB3 gB4 pB1 pB2
@[congr] theorem AAS {c c':Bool} {a b:Prop} (h:c=c'):Wm c a b=Wm c' a b:=by rw[h]
theorem nJ{a b:Prop}:Wm true a b=a:=rfl
theorem A4Y:((1:Nat)==1)=true:=rfl
attribute [go_sem] nJ A4Y Nat.reduceBEq y9 vwS mU Mx
theorem Yv{H:HP}{xs:List AV}{id:Nat}{k:AV->HP->Prop}:U9 H .nl xs id k=((xs=[]->k .nl H)/\(xs≠ []->k (.h id 0 xs.length) (AT H id (some xs)))):=rfl
theorem Yw{H:HP}{i off n:Nat}{xs:List AV}{id:Nat}{k:AV->HP->Prop}:U9 H (.h i off n) xs id k=S5 (H i) λcs=>off+n<=cs.length/\k (.h id 0 (n+xs.length)) (AT (AT H i none) id (some ((cs.drop off).take n++xs))):=rfl
theorem Yx{i off n:Nat}:fY (.h i off n)=n:=rfl
theorem Yy:fY .nl=0:=rfl
attribute [go_sem] Ya Yb A49 A47 A48 gD gV1 gV2 bop uop cop Mj Bj fop qO iop eop nop XX sop jE stop Bw Yv Yw Yx Yy vw Bu fX yC MY yB JJ c_i c_b c_s c_v c_p c_h c_g o_i AA6 o_v o_p o_h k_i k_b k_s k_v k_p k_h k_g List.all_cons List.all_nil Bool.and_true KL TE.agg IM AAC AAD AA8 AA9 AAA AAB Option.bind_some Option.map_some Option.map_none List.map_cons List.map_nil List.length_cons List.length_nil true_and and_true Bool.not_true Bool.not_false forall_const reduceCtorEq false_implies implies_true Nat.zero_add Bool.false_eq_true if_false if_true ga0 gs1 Int.toNat_natCast Int.le_refl Nat.le_refl Nat.mul_one AL BN DT List.length_map List.length_append List.length_take List.length_replicate A4 Option.some.injEq exists_eq_left' nE AA5 A1 sp0 sp1 spn Nat.add_zero List.drop_zero List.take_succ_cons List.take_zero List.drop_succ_cons List.take_nil
theorem BS{P:Program}{Γ:CA}(hG:IB P Γ){f:FuncId}{fn:Func}{c:Code}{n:Nat}{rs:Array ResultVar}(hf:P.funcs[f]? =some fn)(hb:fn.body=some c)(hn:(fn.name== "runtime.NumGoroutine")=false)(yK:fn.ntmps=n)(YR:fn.results=rs){Zz:List AV}{nx:Nat}{H:HP}{Q:Nat->HP->AV->Prop}
    (h:∀cX:Ctx,AW cX P c ⟨Zz++List.replicate (n-Zz.length) .j,H,nx⟩ (jO Γ rs.toList Q)):AC P f nx H Zz Q:=
  AC.intro hG hf hb hn rfl (by rw[yK,YR];exact h)
theorem AD{P:Program}{Γ:CA}(hG:IB P Γ){f:FuncId}{fn:Func}{c:Code}{n:Nat}{rs:Array ResultVar}(hf:P.funcs[f]? =some fn)(hb:fn.body=some c)(hn:(fn.name== "runtime.NumGoroutine")=false)(yK:fn.ntmps=n)(YR:fn.results=rs){Zz:List AV}{r:AV}(hr:NR r)
    (h:∀nx (cX:Ctx),AW cX P c ⟨Zz++List.replicate (n-Zz.length) .j,BM,nx⟩ (jO Γ rs.toList λ_ _ r'=>r'=r)):BI P f Zz r:=
  BI.intro hG hf hb hn rfl hr (λnx=>by rw[yK,YR];exact h nx)
@[congr] theorem ADR {cX:Ctx} {P:Program} {c:Code} {s s':St} {K:Exit->St->Prop} (h:s=s'):AW cX P c s K=AW cX P c s' K:=by rw[h]
theorem CI{cX:Ctx}{P:Program}{c:Operand}{x y:Code}{s:St}{K:Exit->St->Prop}(hc:BQ s.t c= .b true)(h:AW cX P x s K):AW cX P (.cond c x y) s K:=AW.cond hc (λ_=>h) (λe=>by cases e)
theorem B4{cX:Ctx}{P:Program}{c:Operand}{x y:Code}{s:St}{K:Exit->St->Prop}(hc:BQ s.t c= .b false)(h:AW cX P y s K):AW cX P (.cond c x y) s K:=AW.cond hc (λe=>by cases e) (λ_=>h)
attribute [go_sem] List.replicate_succ List.replicate_zero List.cons_append List.nil_append sl List.foldl_cons List.foldl_nil qW CP jO S9 bL
noncomputable def tf(p:Prop):Bool:= @decide p (Classical.propDecidable p)
theorem D2{p:Prop}(h:p):tf p=true:=by simp[tf,h]
theorem C8{p:Prop}(h:¬p):tf p=false:=by simp[tf,h]
theorem JL{p:Prop}:tf p=true↔p:=by simp[tf]
theorem uW{p:Prop}:tf p=false↔¬p:=by simp[tf]
theorem bQ{p q:Prop}(h:p↔q):tf p=tf q:=by rw[propext h]
theorem bt{a b:Bool}(h:a=b):AV.b a=AV.b b:=by rw[h]
theorem it{k:IntKind}{a b:Int}(h:a=b):AV.i k a=AV.i k b:=by rw[h]
theorem cn:(∀(p:Prop) [Decidable p],(decide p=true)=p)/\(∀(p:Prop) [Decidable p],(decide p=false)=¬p)/\(∀(α:Type) [BEq α] [LawfulBEq α] (a b:α),((a==b)=true)=(a=b))/\(∀(α:Type) [BEq α] [LawfulBEq α] (a b:α),((a==b)=false)=¬(a=b))/\(∀(α:Type) [BEq α] [LawfulBEq α] (a b:α),((a !=b)=true)=¬(a=b))/\(∀(α:Type) [BEq α] [LawfulBEq α] (a b:α),((a !=b)=false)=(a=b))/\
    (∀b:Bool,((!b)=true)=(b=false))/\(∀b:Bool,((!b)=false)=(b=true))/\(!true)=false/\(!false)=true/\(∀b:Bool,(¬b=true)=(b=false))/\(∀b:Bool,(¬b=false)=(b=true))/\(∀a b:Int,(a>=b)=(b<=a))/\(∀a b:Int,(a>b)=(b<a))/\(∀(α:Type) (a b:α),(a≠b)=¬(a=b))/\(∀a b:Int,(¬a<b)=(b<=a))/\(∀a b:Int,(¬a<=b)=(b<a))/\(∀p:Prop,(tf p=true)=p)/\∀p:Prop,(tf p=false)=¬p:=
  ⟨λ_=>AB,λ_=>AB,λ_ _ _ _ _=>AB,λ_ _ _ a b=>AB,λ_ _ _ _ _=>AB,λ_ _ _ _ _=>AB,AB,AB,rfl,rfl,AB,AB,AB,AB,λ_ _ _=>rfl,AB,AB,λ_=>propext JL,λ_=>propext uW⟩
theorem yR(xs:List Int){n:Nat}(h:n<=xs.length):AV.v n (List.take n (xs.map (.i .i64)))=ints (xs.take n):=by
  simp[ints,List.map_take,h]
theorem getD_take{α:Type}(xs:List α)(d:α){n j:Nat}(h:j<n):(xs.take n).getD j d=xs.getD j d:=by
  simp[List.getElem?_take,h]
end Go.Proofs.YtgknbnkmilddhaaGreat
