import Derived.Deep.Slices
import Derived.Lib.SmallJoins
import Derived.ProofKit
import Derived.Test.YtghmeeifjeafmaaGreatZ05
set_option linter.unusedVariables false
set_option linter.unusedSimpArgs false
namespace Go.Proofs.YtghmeeifjeafmaaGreat

mutual
inductive Ow (H:HP):AV→AV→List Nat→Prop
  |leaf (a:AV) (hf:Fl a) (hn:NR a):Ow H a a []
  |nl:Ow H .nl (.v 0 []) []
  |h (id:Nat) (cs ts:List AV) (ids:List Nat) (h1:H id=some cs) (h2:OwL H cs ts ids):Ow H (.h id 0 cs.length) (.v cs.length ts) (id::ids)
  |q (id:Nat) (cs ts:List AV) (ids:List Nat) (h1:H id=some cs) (h2:OwL H cs ts ids):Ow H (.q id 0) (.p 0 ts) (id::ids)
  |g (cs ts:List AV) (ids:List Nat) (h2:OwL H cs ts ids):Ow H (.g cs) (.g ts) ids
  |t (cs ts:List AV) (ids:List Nat) (h2:OwL H cs ts ids):Ow H (.t cs) (.t ts) ids
inductive OwL (H:HP):List AV→List AV→List Nat→Prop
  |nil:OwL H [] [] []
  |cons (x y:AV) (xs ys:List AV) (is js:List Nat) (h1:Ow H x y is) (h2:OwL H xs ys js):OwL H (x::xs) (y::ys) (is++js)
end
theorem OwL.len {H:HP}:∀{cs ts:List AV} {ids:List Nat},OwL H cs ts ids→ts.length=cs.length:=by
  intro cs
  induction cs with
  |nil=>intro ts ids h;cases h;rfl
  |cons c cs ih=>intro ts ids h;cases h with|cons x y xs ys is js h1 h2=>simp[ih h2]
theorem OwL.get {H:HP}:∀{cs ts:List AV} {ids:List Nat},OwL H cs ts ids→∀(k:Nat) (x:AV),cs[k]? =some x→∃y is,ts[k]? =some y∧Ow H x y is∧∀i∈is,i∈ids:=by
  intro cs
  induction cs with
  |nil=>intro ts ids h k x hk;simp at hk
  | cons c cs ih=>
    intro ts ids h k x hk
    cases h with
    | cons x' y xs ys is js h1 h2=>
      cases k with
      |zero=>simp at hk;subst hk;exact⟨y,is,rfl,h1,fun i hi=>by simp[hi]⟩
      | succ k=>
        obtain⟨y',is',h3,h4,h5⟩:=ih h2 k x (by simpa using hk)
        exact⟨y',is',by simpa using h3,h4,fun i hi=>by simp[h5 i hi]⟩
theorem OwL.append {H:HP}:∀{cs ts cs' ts':List AV} {ids ids':List Nat},OwL H cs ts ids→OwL H cs' ts' ids'→OwL H (cs++cs') (ts++ts') (ids++ids'):=by
  intro cs
  induction cs with
  |nil=>intro ts cs' ts' ids ids' h h';cases h;exact h'
  | cons c cs ih=>
    intro ts cs' ts' ids ids' h h'
    cases h with
    | cons x y xs ys is js h1 h2=>
      have:=OwL.cons _ y _ _ is _ h1 (ih h2 h')
      simpa[List.append_assoc]using this
theorem OwL.leaves {H:HP}:∀{cs:List AV},(∀x∈cs,Fl x∧NR x)→OwL H cs cs []:=by
  intro cs
  induction cs with
  |nil=>intro _;exact .nil
  | cons c cs ih=>
    intro h
    have:=OwL.cons c c cs cs [] [] (.leaf c (h c (by simp)).1 (h c (by simp)).2) (ih (fun x hx=>h x (by simp[hx])))
    simpa using this

mutual
theorem Ow.keep {H H':HP} {r X:AV} {ids:List Nat} (h:Ow H r X ids) (hk:∀i∈ids,H' i=H i):Ow H' r X ids:=by
  cases h with
  |leaf _ hf hn=>exact .leaf _ hf hn
  |nl=>exact .nl
  |h id cs ts ids h1 h2=>exact .h id cs ts ids ((hk id (by simp)).trans h1) (h2.keep (fun i hi=>hk i (by simp[hi])))
  |q id cs ts ids h1 h2=>exact .q id cs ts ids ((hk id (by simp)).trans h1) (h2.keep (fun i hi=>hk i (by simp[hi])))
  |g cs ts ids h2=>exact .g cs ts ids (h2.keep hk)
  |t cs ts ids h2=>exact .t cs ts ids (h2.keep hk)
theorem OwL.keep {H H':HP} {cs ts:List AV} {ids:List Nat} (h:OwL H cs ts ids) (hk:∀i∈ids,H' i=H i):OwL H' cs ts ids:=by
  cases h with
  |nil=>exact .nil
  |cons x y xs ys is js h1 h2=>exact .cons x y xs ys is js (h1.keep (fun i hi=>hk i (by simp[hi]))) (h2.keep (fun i hi=>hk i (by simp[hi])))
end

mutual
theorem Ow.fl {H:HP} {r X:AV} {ids:List Nat} (h:Ow H r X ids):Fl r∧(∀i∈ids,∃cs,H i=some cs∧∀(k:Nat) (x:AV),cs[k]? =some x→Fl x):=by
  cases h with
  |leaf _ hf hn=>exact⟨hf,by simp⟩
  |nl=>exact⟨.nl,by simp⟩
  | h id cs ts ids h1 h2=>
    obtain⟨h3,h4⟩:=h2.fl
    refine⟨.h _ _ _,?_⟩
    intro i hi
    rcases List.mem_cons.1 hi with rfl|hi
    · exact⟨cs,h1,h3⟩
    exact h4 i hi
  | q id cs ts ids h1 h2=>
    obtain⟨h3,h4⟩:=h2.fl
    refine⟨.q _ _,?_⟩
    intro i hi
    rcases List.mem_cons.1 hi with rfl|hi
    · exact⟨cs,h1,h3⟩
    exact h4 i hi
  |g cs ts ids h2=>obtain⟨h3,h4⟩:=h2.fl;exact⟨.g _ h3,h4⟩
  |t cs ts ids h2=>obtain⟨h3,h4⟩:=h2.fl;exact⟨.t _ h3,h4⟩
theorem OwL.fl {H:HP} {cs ts:List AV} {ids:List Nat} (h:OwL H cs ts ids):(∀(k:Nat) (x:AV),cs[k]? =some x→Fl x)∧(∀i∈ids,∃cs,H i=some cs∧∀(k:Nat) (x:AV),cs[k]? =some x→Fl x):=by
  cases h with
  |nil=>exact⟨by simp,by simp⟩
  | cons x y xs ys is js h1 h2=>
    obtain⟨h3,h4⟩:=h1.fl
    obtain⟨h5,h6⟩:=h2.fl
    refine⟨?_,?_⟩
    · intro k z hk
      cases k with
      |zero=>simp at hk;subst hk;exact h3
      |succ k=>exact h5 k z (by simpa using hk)
    intro i hi
    rcases List.mem_append.1 hi with hi|hi
    · exact h4 i hi
    exact h6 i hi
end

mutual
theorem Ow.vw {H:HP} {r X:AV} {ids:List Nat} (h:Ow H r X ids):Vw H r X:=by
  cases h with
  |leaf _ hf hn=>exact .refl _
  |nl=>exact .nl
  |h id cs ts ids h1 h2=>exact .h id 0 cs.length cs ts h1 (by omega) h2.len (fun k x y hx hy=>h2.vw k x y (by rwa [Nat.zero_add]at hx) hy)
  |q id cs ts ids h1 h2=>exact .q id 0 cs ts h1 h2.len h2.vw
  |g cs ts ids h2=>exact .g cs ts h2.len h2.vw
  |t cs ts ids h2=>exact .t cs ts h2.len h2.vw
theorem OwL.vw {H:HP} {cs ts:List AV} {ids:List Nat} (h:OwL H cs ts ids):∀(k:Nat) (x y:AV),cs[k]? =some x→ts[k]? =some y→Vw H x y:=by
  cases h with
  |nil=>intro k x y hx;simp at hx
  | cons x y xs ys is js h1 h2=>
    intro k a b ha hb
    cases k with
    |zero=>simp at ha hb;subst ha;subst hb;exact h1.vw
    |succ k=>exact h2.vw k a b (by simpa using ha) (by simpa using hb)
end
def Own (nx nx':Nat) (H:HP) (r X:AV) (ids:List Nat):Prop:=Ow H r X ids∧ids.Nodup∧∀i∈ids,nx≤i∧i<nx'
def ACo (P:Program) (f:FuncId) (as:List AV) (X:AV):Prop:=∀nx,AC P f nx noH as fun nx' H' r=>∃ids,Own nx nx' H' r X ids
theorem AC.own {P:Program} {f:FuncId} {nx:Nat} {H:HP} {as ts:List AV} {X:AV} {K:Nat→HP→AV→Prop} (h:ACo P f ts X) (hv:Vws H as ts)
    (hk:∀nx' H' r ids,nx≤nx'→(∀i,i<nx→H' i=H i)→Own nx nx' H' r X ids→K nx' H' r):AC P f nx H as K:=by
  obtain⟨he,hrun⟩:=h nx
  refine⟨he,fun L Av w us hs hfr ha=>(hrun L Av w us (SR_noH hs.avlt) hfr (by rw[MM_noH];exact ha.view hs hv)).mono ?_⟩
  rintro e w' ⟨u,r,L',nx',H',h1,⟨ids,⟨h2,h2',h2''⟩⟩,h3,h4,h5,h6,h7,h8⟩
  obtain⟨hf1,hf2⟩:=h2.fl
  have hHn:∀i,nx≤i→H i=none:=by
    intro i hi
    cases hh:H i with
    |none=>rfl
    |some cs=>obtain⟨l,g1,_⟩:=hs.node i cs hh;rw[hfr i hi]at g1;cases g1
  let H2:HP:=fun i=>if i<nx then H i else if i∈ids then H' i else none
  have hlow:∀i,i<nx→H2 i=H i:=fun i hi=>by simp only[H2,hi,if_true]
  have hids:∀i∈ids,H2 i=H' i:=by
    intro i hi
    have:=h2'' i hi
    simp only[H2];rw[if_neg (by omega),if_pos hi]
  have hk':∀b,b<w.heap.size→w'.heap[b]? =w.heap[b]? :=fun b hb=>h7.keep b hb LB_noH
  --the live ones
  have live:∀i cs,H2 i=some cs→(i<nx∧H i=some cs)∨(i∈ids∧nx≤i∧H' i=some cs):=by
    intro i cs hi
    simp only[H2]at hi
    split at hi
    · exact .inl ⟨by assumption,hi⟩
    split at hi
    · exact .inr ⟨by assumption,by omega,hi⟩
    cases hi
  have newblk:∀i cs l,H' i=some cs→L' i=some l→w.heap.size≤l.blk:=by
    intro i cs l g1 g2
    apply Classical.byContradiction
    intro hlt
    exact LB_noH (h7.old l.blk (by omega) ⟨i,cs,l,g1,g2,rfl⟩)
  have hst:Step L H w L' H2 w':=by
    refine⟨h7.le,h7.os,h7.tape,h7.output,h7.size,fun b hb _=>hk' b hb,?_⟩
    rintro b hb ⟨i,cs,l,g1,g2,g3⟩
    rcases live i cs g1 with ⟨g4,g5⟩|⟨g4,g5,g6⟩
    · exact⟨i,cs,l,g5,by rw[←h5 i g4];exact g2,g3⟩
    have:=newblk i cs l g6 g2;omega
  have hsr:SR L' H2 Av w':=by
    refine⟨?_,?_,?_,fun b hb=>Nat.lt_of_lt_of_le (hs.avlt b hb) h7.size⟩
    · intro i cs hi
      rcases live i cs hi with ⟨g4,g5⟩|⟨g4,g5,g6⟩
      · obtain⟨l,g7,hnd⟩:=hs.node i cs g5
        exact⟨l,by rw[h5 i g4];exact g7,hnd.mono (hk' _ hnd.lt) fun k x hk c g13=>g13.step hst⟩
      obtain⟨l,g7,hnd⟩:=h6.node i cs g6
      refine⟨l,g7,hnd.mono rfl fun k x hk c g13=>?_⟩
      obtain⟨cs',g14,g15⟩:=hf2 i g4
      rw[g6]at g14;cases g14
      exact g13.fl (fun _ _ h=>h) (g15 k x hk)
    · intro i i' cs cs' l l' g1 g2 g3 g4 g5
      rcases live i cs g1 with ⟨q1,q2⟩|⟨q1,q2,q3⟩<;>rcases live i' cs' g2 with ⟨q4,q5⟩|⟨q4,q5',q6⟩
      · exact hs.inj i i' cs cs' l l' q2 q5 (by rw[←h5 i q1];exact g3) (by rw[←h5 i' q4];exact g4) g5
      · have a1:=LB_lt hs ⟨i,cs,l,q2,by rw[←h5 i q1];exact g3,rfl⟩
        have a2:=newblk i' cs' l' q6 g4
        omega
      · have a1:=LB_lt hs ⟨i',cs',l',q5,by rw[←h5 i' q4];exact g4,rfl⟩
        have a2:=newblk i cs l q3 g3
        omega
      exact h6.inj i i' cs cs' l l' q3 q6 g3 g4 g5
    intro i cs l g1 g2
    rcases live i cs g1 with ⟨q1,q2⟩|⟨q1,q2,q3⟩
    · exact hs.av i cs l q2 (by rw[←h5 i q1];exact g2)
    exact h6.av i cs l q3 g2
  refine⟨u,r,L',nx',H2,h1,hk nx' H2 r ids h3 hlow ⟨h2.keep hids,h2',h2''⟩,h3,h4,h5,hsr,hst,h8.fl (fun _ _ h=>h) hf1⟩
theorem vc_int (k:IntKind) (n:Int):(Value.int k n).cells=#[.int k n]:=rfl
theorem vc_bool (b:Bool):(Value.bool b).cells=#[.bool b]:=rfl
theorem vc_str (b:ByteArray):(Value.string b).cells=#[.string b]:=rfl
theorem vc_sl (a:Option Addr) (n c:Nat):(Value.slice a n c).cells=#[.slice a n c]:=rfl
theorem vc_ptr (a:Option Addr):(Value.pointer a).cells=#[.pointer a]:=rfl
theorem vc_agg (cs:Array Value):(Value.agg cs).cells=cs:=rfl
theorem ga0 (x d:Value):(#[x]:Array Value).getD 0 d=x:=rfl
theorem gs1 (x:Value):(#[x]:Array Value).size=1:=rfl
def sl (n:Nat) (kv:List (Nat×AV)):List AV:=kv.foldl (fun l p=>l.set p.1 p.2) (List.replicate n .j)
def ints (xs:List Int):AV:= .v xs.length (xs.map (.i .i64))
def rows (xs:List (List Int)):AV:= .v xs.length (xs.map ints)
def cubes (xs:List (List (List Int))):AV:= .v xs.length (xs.map rows)
theorem w64 {n:Int} (h0: -9223372036854775808≤n) (h1:n≤9223372036854775807):IntKind.wrap .i64 n=n:=wrap_i64 h0 h1
theorem Ow.ints {H:HP} {id:Nat} {xs:List Int} {n:Nat} (h:H id=some (xs.map (.i .i64))) (hn:n=xs.length):Ow H (.h id 0 n) (Go.Proofs.YtghmeeifjeafmaaGreat.ints xs) [id]:=by
  have:=Ow.h id _ _ [] h (OwL.leaves (fun x hx=>by
    obtain⟨y,_,rfl⟩:=List.mem_map.1 hx
    exact⟨.i _ _,.i _ _⟩))
  rw[List.length_map]at this
  rw[hn];exact this
theorem Own.ints {nx nx':Nat} {H:HP} {id:Nat} {xs:List Int} {n:Nat} (h:H id=some (xs.map (.i .i64))) (hn:n=xs.length) (h1:nx≤id) (h2:id<nx'):Own nx nx' H (.h id 0 n) (Go.Proofs.YtghmeeifjeafmaaGreat.ints xs) [id]:=
  ⟨Ow.ints h hn,by simp,by simp;omega⟩
theorem map_getD {α:Type} (f:α→AV) (xs:List α) (d:α) {k:Nat} (h:k<xs.length):(xs.map f).getD k .j=f (xs.getD k d):=by
  simp[h]
theorem andO {p q:Prop} (h:p):(p∧q)=q:=propext ⟨fun h=>h.2,fun hq=>⟨h,hq⟩⟩
theorem gd_i {xs:List Int} {k:Nat} (h:k<xs.length):(xs.map (AV.i .i64)).getD k .j= .i .i64 (xs.getD k 0):=map_getD _ xs 0 h
theorem gd_r {xs:List (List Int)} {k:Nat} (h:k<xs.length):(xs.map Go.Proofs.YtghmeeifjeafmaaGreat.ints).getD k .j=Go.Proofs.YtghmeeifjeafmaaGreat.ints (xs.getD k []):=map_getD _ xs [] h
theorem gd_c {xs:List (List (List Int))} {k:Nat} (h:k<xs.length):(xs.map rows).getD k .j=rows (xs.getD k []):=map_getD _ xs [] h
theorem c_i (k:IntKind) (n:Int):cellsA (.i k n)=[.i k n]:=rfl
theorem c_b (x:Bool):cellsA (.b x)=[.b x]:=rfl
theorem c_s (x:ByteArray):cellsA (.s x)=[.s x]:=rfl
theorem c_nl:cellsA .nl=[.nl]:=rfl
theorem c_v (n:Nat) (cs:List AV):cellsA (.v n cs)=[.v n cs]:=rfl
theorem c_p (n:Nat) (cs:List AV):cellsA (.p n cs)=[.p n cs]:=rfl
theorem c_h (a b c:Nat):cellsA (.h a b c)=[.h a b c]:=rfl
theorem c_hs (s a b c:Nat):cellsA (.hs s a b c)=[.hs s a b c]:=rfl
theorem c_q (a b:Nat):cellsA (.q a b)=[.q a b]:=rfl
theorem c_m (a:Nat):cellsA (.m a)=[.m a]:=rfl
theorem c_g (cs:List AV):cellsA (.g cs)=cs:=rfl
theorem o_i (k:IntKind) (n:Int):one (.i k n)=true:=rfl
theorem o_b (x:Bool):one (.b x)=true:=rfl
theorem o_s (x:ByteArray):one (.s x)=true:=rfl
theorem o_nl:one .nl=true:=rfl
theorem o_v (n:Nat) (cs:List AV):one (.v n cs)=true:=rfl
theorem o_p (n:Nat) (cs:List AV):one (.p n cs)=true:=rfl
theorem o_h (a b c:Nat):one (.h a b c)=true:=rfl
theorem o_hs (s a b c:Nat):one (.hs s a b c)=true:=rfl
theorem o_q (a b:Nat):one (.q a b)=true:=rfl
theorem o_m (a:Nat):one (.m a)=true:=rfl
theorem k_i (k:IntKind) (n:Int):okA (.i k n)=true:=rfl
theorem k_b (x:Bool):okA (.b x)=true:=rfl
theorem k_s (x:ByteArray):okA (.s x)=true:=rfl
theorem k_nl:okA .nl=true:=rfl
theorem k_v (n:Nat) (cs:List AV):okA (.v n cs)=true:=rfl
theorem k_p (n:Nat) (cs:List AV):okA (.p n cs)=true:=rfl
theorem k_h (a b c:Nat):okA (.h a b c)=true:=rfl
theorem k_hs (s a b c:Nat):okA (.hs s a b c)=true:=rfl
theorem k_q (a b:Nat):okA (.q a b)=true:=rfl
theorem k_m (a:Nat):okA (.m a)=true:=rfl
theorem k_g (cs:List AV):okA (.g cs)=cs.all one:=rfl
theorem sp0 (a x:AV) (as xs:List AV):splice (a::as) 0 (x::xs)=x::splice as 0 xs:=by
  simp[splice]
theorem spn (cs:List AV) (o:Nat):splice cs o []=cs:=by simp[splice]
theorem sp1 (a:AV) (as xs:List AV) (n:Nat):splice (a::as) (n+1) xs=a::splice as n xs:=by
  simp[splice,Nat.add_right_comm]
theorem splice_one (cs:List AV) (k:Nat) (x:AV) (h:k<cs.length):splice cs k [x]=cs.set k x:=by
  apply List.ext_getElem?
  intro i
  rw[splice_getE _ _ _ (by simp;omega),List.getElem?_set]
  by_cases hi:k=i
  · subst hi;simp[h]
  rw[if_neg hi,if_neg (by simp;omega)]
attribute [go_sem] w64
end Go.Proofs.YtghmeeifjeafmaaGreat
namespace Go.Proofs.YtghmeeifjeafmaaGreat
open Go.Deep Go.ChangeShapes Go.WideShapes
def noL:LM:=fun _=>none
def noM:Nat→Prop:=fun _=>False
section
variable {T:Type} {enc:TypeId×Value→T} {P:Program} {w:World} {sp:Nat→Bool} {held:Bool}
theorem rd_slice {α:Type} [Inhabited α] {f:α→AV} {ok:α→Prop} {t e:TypeId} {fuel:Nat} {v:Value} {x:DataW T×List MemPlace} (ht:P.underlying t=some (.slice e)) (hc:P.cellsOf e=1)
    (hel:∀n u y,DataW.trod enc P w 0 sp held n e [u]=some y→∃z:α,R noL w noM (f z) u∧ok z) (h:DataW.trod enc P w 0 sp held fuel t [v]=some x):
    ∃xs:List α,R noL w noM (.v xs.length (xs.map f)) v∧xs.length≤maxLen∧∀y∈xs,ok y:=by
  rcases open_slice1 ht hc h with ⟨h1,_⟩|⟨a,len,cap,m,n,V,D,Pl,h1,_,hl,hcm,hm,_,hx⟩
  · simp only[List.cons.injEq,and_true]at h1
    subst h1
    exact⟨[],.v0 _ _,Nat.zero_le _,by simp⟩
  simp only[List.cons.injEq,and_true]at h1
  subst h1
  have hlm:len≤m:=by rw[hm];split<;>omega
  have hz:∀i,i<len→∃z:α,R noL w noM (f z) (V i)∧ok z:=fun i hi=>hel n _ _ (hx i (by omega)).2
  obtain⟨Z,hZ⟩:=choose_lt (α:=α) (p:=fun i z=>R noL w noM (f z) (V i)∧ok z) hz
  refine⟨(List.range len).map Z,?_,by simp;omega,?_⟩
  · simp only[List.length_map,List.length_range]
    by_cases h0:len=0
    · subst h0;exact .v0 _ _
    obtain⟨b,off,spot⟩:=a
    have hc0:=(hx 0 (by omega)).1
    have hspot:spot=none:=by simpa[Addr.add]using World.cell?_spot hc0
    subst hspot
    have hcell:∀i,i<len→w.cell? ⟨b,off+i,none⟩=some (V i):=fun i hi=>by
      have:=(hx i (by omega)).1
      rwa [addr_add]at this
    have hb:=hcell 0 (by omega)
    unfold World.cell? at hb
    simp only at hb
    cases hbk:w.heap[b]? with
    |none=>rw[hbk]at hb;cases hb
    | some o=>
      rw[hbk]at hb
      cases o with
      | cells arr et fr=>
        refine .v len _ b off cap arr et fr V (fun h=>h) hbk hl ?_ ?_
        · intro k hk
          simp only[List.length_map,List.length_range]at hk
          have:=hcell k hk
          unfold World.cell? at this
          simp only[hbk]at this
          simpa using this
        intro k y hk
        simp only[List.map_map,List.getElem?_map,Option.map_eq_some_iff,List.getElem?_range,Function.comp]at hk
        obtain⟨i,h5,h6⟩:=hk
        have hi:=List.getElem?_eq_some_iff.1 h5
        simp only[List.getElem_range,List.length_range]at hi
        obtain⟨h7,h8⟩:=hi
        subst h8
        rw[←h6]
        exact(hZ k h7).1
      |_=>cases hb
  intro y hy
  obtain⟨i,h5,h6⟩:=List.mem_map.1 hy
  rw[←h6]
  exact(hZ i (List.mem_range.1 h5)).2
theorem law_run {f:FuncId} {as:List AV} {us:Array Value} (h:ACp P f as (.b true)) (ha:ArgsR noL w noM as us):Calls P f us w fun e w'=>e= .returned (.bool true)∧RowKit.Below w.heap.size w w':=by
  refine(h.2 noL noM w us (fun _ h=>h.elim) ⟨0,fun _ _=>rfl⟩ ha).mono ?_
  rintro e w' ⟨u,h1,h2,h3⟩
  rw[h3.b_inv]at h1
  exact⟨h1,h2.os,h2.tape,h2.output,h2.size,fun k hk=>h2.keep k hk LB_noH⟩
end
attribute [go_sem] w64
end Go.Proofs.YtghmeeifjeafmaaGreat
namespace Go.Proofs.YtghmeeifjeafmaaGreat
theorem Ow.slice {H:HP} {r:AV} {n:Nat} {ts:List AV} {ids:List Nat} (h:Ow H r (.v n ts) ids):cellsA r=[r]∧one r=true∧okA r=true:=by
  cases h<;>exact⟨rfl,rfl,rfl⟩

mutual
theorem Ow.nr {H:HP} {r X:AV} {ids:List Nat} (h:Ow H r X ids):NR X:=by
  cases h with
  |leaf _ hf hn=>exact hn
  |nl=>exact .v _ _ (by simp)
  |h id cs ts ids h1 h2=>exact .v _ _ h2.nr
  |q id cs ts ids h1 h2=>exact .p _ _ h2.nr
  |g cs ts ids h2=>exact .g _ h2.nr
  |t cs ts ids h2=>exact .t _ h2.nr
theorem OwL.nr {H:HP} {cs ts:List AV} {ids:List Nat} (h:OwL H cs ts ids):∀(k:Nat) (x:AV),ts[k]? =some x→NR x:=by
  cases h with
  |nil=>intro k x hk;simp at hk
  | cons x y xs ys is js h1 h2=>
    intro k z hk
    cases k with
    |zero=>simp at hk;subst hk;exact h1.nr
    |succ k=>exact h2.nr k z (by simpa using hk)
end
theorem ACo.pure {P:Program} {f:FuncId} {as:List AV} {X:AV} (h:ACo P f as X):ACp P f as X:=by
  refine⟨(h 0).1,fun L M w us hM ⟨n,hn⟩ ha=>((h n).2 L M w us (SR_noH hM) hn (by rw[MM_noH];exact ha)).mono ?_⟩
  rintro e w' ⟨u,r,L',nx',H',h1,⟨ids,h2,_⟩,h3,h4,h5,h6,h7,h8⟩
  exact⟨u,h1,⟨fun _ _ h=>h,h7.os,h7.tape,h7.output,h7.size,h7.keep,fun b _ hb=>absurd hb LB_noH⟩,(h2.vw.sound h6 h8).nr h2.nr⟩
theorem Own.keep {a b a' b':Nat} {H H':HP} {r X:AV} {ids:List Nat} (h:Own a b H r X ids) (hk:∀i,a≤i→i<b→H' i=H i) (ha:a'≤a) (hb:b≤b'):Own a' b' H' r X ids:=
  ⟨h.1.keep fun i hi=>hk i (h.2.2 i hi).1 (h.2.2 i hi).2,h.2.1,fun i hi=>by have:=h.2.2 i hi;omega⟩
attribute [go_sem] w64
end Go.Proofs.YtghmeeifjeafmaaGreat
