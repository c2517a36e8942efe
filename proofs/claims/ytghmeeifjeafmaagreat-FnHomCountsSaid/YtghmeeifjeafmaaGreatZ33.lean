import Derived.Test.YtghmeeifjeafmaaGreatZ11
import Derived.Test.YtghmeeifjeafmaaGreatZ30
set_option linter.unusedVariables false
set_option linter.unusedSimpArgs false
namespace Go.Proofs.YtghmeeifjeafmaaGreat
theorem AC.frz {P:Program} {f:FuncId} {nx:Nat} {H:HP} {xs:List AV} {Q Q':Nat→HP→AV→Prop} (h:AC P f nx H xs Q) (hq:∀n H' r,Q n H' r→∃H2 r2,FzH H' H2∧Fz H' H2 r r2∧Q' n H2 r2):AC P f nx H xs Q':=
  ⟨h.1,fun L Av w us a b c=>(h.2 L Av w us a b c).mono fun e w' ⟨u,r,L',nx',H',h1,h2,h3,h4,h5,h6,h7,h8⟩=>by
    obtain⟨H2,r2,g1,g2,g3⟩:=hq _ _ _ h2
    exact⟨u,r2,L',nx',H2,h1,g3,h3,h4,h5,h6.fz g1,⟨h7.le,h7.os,h7.tape,h7.output,h7.size,h7.keep,fun b hb hl=>h7.old b hb (g1.lb hl)⟩,g2.sound h6 g1 h8⟩⟩
theorem AC.ownQ {P:Program} {f:FuncId} {nx:Nat} {H:HP} {xs ts:List AV} {Q:Nat→HP→AV→Prop} (h:AC P f nx noH ts Q) (hQ:∀n H0 r,Q n H0 r→∃X ids,Own nx n H0 r X ids∧∀H',(∀i∈ids,H' i=H0 i)→Q n H' r) (hv:Vws H xs ts):
    AC P f nx H xs fun nx' H' r=>Q nx' H' r∧∀i,i<nx→H' i=H i:=by
  obtain⟨he,hrun⟩:=h
  refine⟨he,fun L Av w us hs hfr ha=>(hrun L Av w us (SR_noH hs.avlt) hfr (by rw[MM_noH];exact ha.view hs hv)).mono ?_⟩
  rintro e w' ⟨u,r,L',nx',H',h1,hq,h3,h4,h5,h6,h7,h8⟩
  obtain⟨X,ids,⟨h2,h2',h2''⟩,hq2⟩:=hQ _ _ _ hq
  obtain⟨hf1,hf2⟩:=h2.fl
  have hHn:∀i,nx≤i→H i=none:=by
    intro i hi
    cases hh:H i with
    |none=>rfl
    |some cs=>obtain⟨l,g1,_⟩:=hs.node i cs hh;rw[hfr i hi]at g1;cases g1
  let H2:HP:=fun i=>if i<nx then H i else if i∈ids then H' i else none
  have hlow:∀i,i<nx→H2 i=H i:=fun i hi=>by simp only[H2,hi,if_true]
  have hids:∀i∈ids,H2 i=H' i:=by
    intro i hi
    have:=h2'' i hi
    simp only[H2];rw[if_neg (by omega),if_pos hi]
  have hk':∀b,b<w.heap.size→w'.heap[b]? =w.heap[b]? :=fun b hb=>h7.keep b hb LB_noH
  --the live ones
  have live:∀i cs,H2 i=some cs→(i<nx∧H i=some cs)∨(i∈ids∧nx≤i∧H' i=some cs):=by
    intro i cs hi
    simp only[H2]at hi
    split at hi
    · exact .inl ⟨by assumption,hi⟩
    split at hi
    · exact .inr ⟨by assumption,by omega,hi⟩
    cases hi
  have newblk:∀i cs l,H' i=some cs→L' i=some l→w.heap.size≤l.blk:=by
    intro i cs l g1 g2
    apply Classical.byContradiction
    intro hlt
    exact LB_noH (h7.old l.blk (by omega) ⟨i,cs,l,g1,g2,rfl⟩)
  have hst:Step L H w L' H2 w':=by
    refine⟨h7.le,h7.os,h7.tape,h7.output,h7.size,fun b hb _=>hk' b hb,?_⟩
    rintro b hb ⟨i,cs,l,g1,g2,g3⟩
    rcases live i cs g1 with ⟨g4,g5⟩|⟨g4,g5,g6⟩
    · exact⟨i,cs,l,g5,by rw[←h5 i g4];exact g2,g3⟩
    have:=newblk i cs l g6 g2;omega
  have hsr:SR L' H2 Av w':=by
    refine⟨?_,?_,?_,fun b hb=>Nat.lt_of_lt_of_le (hs.avlt b hb) h7.size⟩
    · intro i cs hi
      rcases live i cs hi with ⟨g4,g5⟩|⟨g4,g5,g6⟩
      · obtain⟨l,g7,hnd⟩:=hs.node i cs g5
        exact⟨l,by rw[h5 i g4];exact g7,hnd.mono (hk' _ hnd.lt) fun k x hk c g13=>g13.step hst⟩
      obtain⟨l,g7,hnd⟩:=h6.node i cs g6
      refine⟨l,g7,hnd.mono rfl fun k x hk c g13=>?_⟩
      obtain⟨cs',g14,g15⟩:=hf2 i g4
      rw[g6]at g14;cases g14
      exact g13.fl (fun _ _ h=>h) (g15 k x hk)
    · intro i i' cs cs' l l' g1 g2 g3 g4 g5
      rcases live i cs g1 with ⟨q1,q2⟩|⟨q1,q2,q3⟩<;>rcases live i' cs' g2 with ⟨q4,q5⟩|⟨q4,q5',q6⟩
      · exact hs.inj i i' cs cs' l l' q2 q5 (by rw[←h5 i q1];exact g3) (by rw[←h5 i' q4];exact g4) g5
      · have a1:=LB_lt hs ⟨i,cs,l,q2,by rw[←h5 i q1];exact g3,rfl⟩
        have a2:=newblk i' cs' l' q6 g4
        omega
      · have a1:=LB_lt hs ⟨i',cs',l',q5,by rw[←h5 i' q4];exact g4,rfl⟩
        have a2:=newblk i cs l q3 g3
        omega
      exact h6.inj i i' cs cs' l l' q3 q6 g3 g4 g5
    intro i cs l g1 g2
    rcases live i cs g1 with ⟨q1,q2⟩|⟨q1,q2,q3⟩
    · exact hs.av i cs l q2 (by rw[←h5 i q1];exact g2)
    exact h6.av i cs l q3 g2
  exact⟨u,r,L',nx',H2,h1,⟨hq2 H2 hids,hlow⟩,h3,h4,h5,hsr,hst,h8.fl (fun _ _ h=>h) hf1⟩

mutual
theorem Ow.fzTo {H H2:HP} {r X:AV} {ids:List Nat} (h:Ow H r X ids) (hz:∀i∈ids,H2 i=none):Fz H H2 r X:=by
  cases h with
  |leaf _ hf hn=>exact .refl _
  |nl=>exact .nl
  | h id cs ts ids' h1 h2=>
    have hl:=h2.len
    exact .h id 0 _ cs ts h1 (hz id (by simp)) (by simp) (by omega) fun k x y hx hy=>h2.fzTo (fun i hi=>hz i (by simp[hi])) k x y (by simpa using hx) hy
  | q id cs ts ids' h1 h2=>
    exact .q id 0 cs ts h1 (hz id (by simp)) h2.len fun k x y hx hy=>h2.fzTo (fun i hi=>hz i (by simp[hi])) k x y hx hy
  |g cs ts ids' h2=>exact .g cs ts h2.len fun k x y hx hy=>h2.fzTo hz k x y hx hy
  |t cs ts ids' h2=>exact .t cs ts h2.len fun k x y hx hy=>h2.fzTo hz k x y hx hy
theorem OwL.fzTo {H H2:HP} {cs ts:List AV} {ids:List Nat} (h:OwL H cs ts ids) (hz:∀i∈ids,H2 i=none):∀(k:Nat) (x y:AV),cs[k]? =some x→ts[k]? =some y→Fz H H2 x y:=by
  cases h with
  |nil=>intro k x y hx;simp at hx
  | cons x y xs ys is js h1 h2=>
    intro k x' y' hx hy
    cases k with
    |zero=>simp at hx hy;subst hx hy;exact h1.fzTo (fun i hi=>hz i (by simp[hi]))
    |succ k=>exact h2.fzTo (fun i hi=>hz i (by simp[hi])) k x' y' (by simpa using hx) (by simpa using hy)
end
def blw (n:Nat) (H:HP):HP:=fun i=>if i<n then H i else none
theorem blw_lt {n i:Nat} {H:HP} (h:i<n):blw n H i=H i:=by simp only[blw,h,if_true]
theorem blw_ge {n i:Nat} {H:HP} (h:n≤i):blw n H i=none:=by simp only[blw];rw[if_neg (by omega)]
theorem FzH.blw {n:Nat} {H:HP}:FzH H (Go.Proofs.YtghmeeifjeafmaaGreat.blw n H):=fun j cs hj=>by
  by_cases e:j<n
  · rw[blw_lt e]at hj
    exact⟨cs,hj,rfl,fun k x y h1 h2=>by rw[h1]at h2;cases h2;exact .refl _⟩
  rw[blw_ge (by omega)]at hj;cases hj
theorem LC.fz {n:Nat} {H:HP} {a b:Nat} {L:AV} {cs ts:List AV} (h:LC H a b L cs) (hn:n≤a) (hl:ts.length=cs.length) (hc:∀(k:Nat) (x y:AV),cs[k]? =some x→ts[k]? =some y→Fz H (blw n H) x y):Fz H (blw n H) L (.v ts.length ts):=by
  rcases h with ⟨rfl,rfl⟩|⟨id,rfl,h0,h1,h2⟩
  · rw[List.length_eq_zero_iff.1 hl];exact .nl
  rw[hl]
  exact .h id 0 _ cs ts h0 (blw_ge (by omega)) (by simp) hl fun k x y hx hy=>hc k x y (by simpa using hx) hy
theorem OwL.fam {H:HP}:∀{cs ts:List AV} {ids:List Nat},OwL H cs ts ids→∃J:Nat→List Nat,(∀k,k<cs.length→Ow H (cs.getD k .nl) (ts.getD k .nl) (J k))∧(∀k,k<cs.length→∀i∈J k,i∈ids)∧(∀k,cs.length≤k→J k=[])∧(ids.Nodup→(∀k,(J k).Nodup)∧∀j k,j≠k→∀i∈J j,i∉J k):=by
  intro cs
  induction cs with
  |nil=>intro ts ids h;exact⟨fun _=>[],by simp,by simp,by simp,by simp⟩
  | cons c cs ih=>
    intro ts ids h
    cases h with
    | cons x y xs ys is js h1 h2=>
      obtain⟨J,g1,g2,g0,g3⟩:=ih h2
      refine⟨fun k=>match k with|0=>is|k+1=>J k,fun k hk=>?_,fun k hk i hi=>?_,fun k hk=>?_,fun hn=>?_⟩
      · cases k with
        |zero=>simpa using h1
        |succ k=>simpa using g1 k (by simpa using hk)
      · cases k with
        |zero=>simp at hi ⊢;exact .inl hi
        |succ k=>simp at hi ⊢;exact .inr (g2 k (by simpa using hk) i hi)
      · cases k with
        |zero=>simp at hk
        |succ k=>exact g0 k (by simpa using hk)
      rw[List.nodup_append]at hn
      obtain⟨n1,n2,n3⟩:=hn
      obtain⟨g4,g5⟩:=g3 n2
      have mem:∀k i,i∈J k→i∈js:=fun k i hi=>by
        by_cases hk:k<cs.length
        · exact g2 k hk i hi
        rw[g0 k (by omega)]at hi;cases hi
      refine⟨fun k=>?_,fun j k hjk i hi hi2=>?_⟩
      · cases k with
        |zero=>exact n1
        |succ k=>exact g4 k
      cases j with
      | zero=>
        cases k with
        |zero=>exact hjk rfl
        |succ k=>exact n3 i hi i (mem k i hi2) rfl
      | succ j=>
        cases k with
        |zero=>exact n3 i hi2 i (mem j i hi) rfl
        |succ k=>exact g5 j k (by omega) i hi hi2
structure RgP (lo m:Nat) (P B:AV) (X:List (List Int)) (Y:List (List (List Int))) (bc:List AV) (H:HP):Prop where
  p:LC H lo m P (X.map ints)
  b:LC H lo m B bc
  bl:bc.length=Y.length
  c:∀k,k<Y.length→LC H lo m (bc.getD k .nl) ((Y.getD k []).map ints)
  pb:bk P=0∨bk P≠bk B
  pc:∀k,k<Y.length→bk (bc.getD k .nl)=0∨(bk (bc.getD k .nl)≠bk P∧bk (bc.getD k .nl)≠bk B)
  cc:∀j k,j<Y.length→k<Y.length→j≠k→bk (bc.getD j .nl)=0∨bk (bc.getD j .nl)≠bk (bc.getD k .nl)
theorem RgP.keep {lo lo' m m':Nat} {P B:AV} {X:List (List Int)} {Y:List (List (List Int))} {bc:List AV} {H H':HP} (h:RgP lo m P B X Y bc H) (hk:∀j,lo≤j→j<m→H' j=H j) (hl:lo'≤lo) (hm:m≤m'):RgP lo' m' P B X Y bc H':=
  ⟨(h.p.keep hk).wide hl hm,(h.b.keep hk).wide hl hm,h.bl,fun k hk2=>((h.c k hk2).keep hk).wide hl hm,h.pb,h.pc,h.cc⟩
theorem LC.pos {H:HP} {a b:Nat} {L:AV} {cs:List AV} (h:LC H a b L cs) (hp:0<cs.length):∃id,L= .h id 0 cs.length∧H id=some cs∧a≤id∧id<b:=by
  rcases h with ⟨_,rfl⟩|h
  · simp at hp
  exact h
theorem RgP.setP {lo m k:Nat} {P B:AV} {X:List (List Int)} {Y:List (List (List Int))} {bc:List AV} {H:HP} (h:RgP lo m P B X Y bc H) (hk:k<X.length):
    ∃p,P= .h p 0 X.length∧H p=some (X.map ints)∧(lo≤p∧p<m)∧∀(H':HP) (w:List Int) (lo' m':Nat),H' p=some (splice (X.map ints) k [ints w])→(∀j,lo≤j→j<m→j≠p→H' j=H j)→lo'≤lo→m≤m'→RgP lo' m' P B (X.set k w) Y bc H':=by
  obtain⟨p,e,h1,h2,h3⟩:=h.p.pos (by simpa using(by omega:0<X.length))
  rw[List.length_map]at e
  refine⟨p,e,h1,⟨h2,h3⟩,fun H' w lo' m' hp hkeep hl hm=>?_⟩
  subst e
  have hs:splice (X.map ints) k [ints w]=(X.set k w).map ints:=by rw[splice_one _ _ _ (by simpa using hk),List.map_set]
  have hbp:∀i,bk B=i+1→i≠p:=fun i hi e=>by
    rcases h.pb with g|g
    · simp[bk]at g
    exact g (by rw[hi,e];rfl)
  refine⟨.inr ⟨p,by simp,by rw[hp,hs],by omega,by omega⟩,?_,h.bl,fun j hj=>?_,h.pb,h.pc,h.cc⟩
  · exact(h.b.keep1 (fun i hi=>hkeep i (by have:=h.b.bd;omega) (by have:=h.b.bd;omega) (hbp i hi))).wide hl hm
  have hb:=(h.c j hj).bd
  refine((h.c j hj).keep1 (fun i hi=>hkeep i (by omega) (by omega) (fun e=>?_))).wide hl hm
  rcases h.pc j hj with g|g
  · omega
  exact g.1 (by rw[hi,e];rfl)
theorem RgP.setB {lo m k l:Nat} {P B:AV} {X:List (List Int)} {Y:List (List (List Int))} {bc:List AV} {H:HP} (h:RgP lo m P B X Y bc H) (hk:k<Y.length) (hl:l<(Y.getD k []).length):
    ∃ b q,B= .h b 0 Y.length∧H b=some bc∧(lo≤b∧b<m)∧bc.getD k .nl= .h q 0 (Y.getD k []).length∧bc.getD k .j= .h q 0 (Y.getD k []).length∧H q=some ((Y.getD k []).map ints)∧(lo≤q∧q<m)∧b≠q∧
      ∀(H':HP) (w:List Int) (lo' m':Nat),H' q=some (splice ((Y.getD k []).map ints) l [ints w])→(∀j,lo≤j→j<m→j≠q→H' j=H j)→lo'≤lo→m≤m'→RgP lo' m' P B X (Y.set k ((Y.getD k []).set l w)) bc H':=by
  obtain⟨b,e,h1,h2,h3⟩:=h.b.pos (by rw[h.bl];omega)
  obtain⟨q,e2,g1,g2,g3⟩:=(h.c k hk).pos (by rw[List.length_map];omega)
  rw[List.length_map]at e2
  rw[h.bl]at e
  have e3:bc.getD k .j= .h q 0 (Y.getD k []).length:=by
    rw[←e2];have:=h.bl;simp[List.getD,show k<bc.length by omega]
  have hq:=h.pc k hk
  rw[e2]at hq
  have hq1:bk P≠q+1:=by
    rcases hq with g|g
    · simp[bk]at g
    exact fun e=>g.1 e.symm
  have hq2:b≠q:=by
    rcases hq with g|g
    · simp[bk]at g
    intro e4;apply g.2;rw[e,←e4];rfl
  refine⟨b,q,e,h1,⟨h2,h3⟩,e2,e3,g1,⟨g2,g3⟩,hq2,fun H' w lo' m' hp hkeep hlo hm=>?_⟩
  have hs:splice ((Y.getD k []).map ints) l [ints w]=((Y.getD k []).set l w).map ints:=by rw[splice_one _ _ _ (by simpa using hl),List.map_set]
  have hYl:(Y.set k ((Y.getD k []).set l w)).length=Y.length:=by simp
  refine⟨?_,?_,by rw[hYl];exact h.bl,fun j hj=>?_,h.pb,by rw[hYl];exact h.pc,by rw[hYl];exact h.cc⟩
  · exact(h.p.keep1 (fun i hi=>hkeep i (by have:=h.p.bd;omega) (by have:=h.p.bd;omega) (by omega))).wide hlo hm
  · refine(h.b.keep1 (fun i hi=>hkeep i (by have:=h.b.bd;omega) (by have:=h.b.bd;omega) ?_)).wide hlo hm
    rw[e]at hi;simp only[bk]at hi;omega
  rw[hYl]at hj
  by_cases ejk:j=k
  · subst ejk
    rw[e2,show(Y.set j ((Y.getD j []).set l w)).getD j []=(Y.getD j []).set l w by simp[hj]]
    exact .inr ⟨q,by simp,by rw[hp,hs],by omega,by omega⟩
  rw[show(Y.set k ((Y.getD k []).set l w)).getD j []=Y.getD j [] by rw[List.getD_eq_getElem?_getD,List.getElem?_set_ne (by omega),←List.getD_eq_getElem?_getD]]
  have hb:=(h.c j hj).bd
  refine((h.c j hj).keep1 (fun i hi=>hkeep i (by omega) (by omega) (fun e4=>?_))).wide hlo hm
  rcases h.cc j k hj hk ejk with g|g
  · omega
  exact g (by rw[hi,e2,e4];rfl)
theorem RgP.fz {lo m n:Nat} {P B:AV} {os:List Int} {X:List (List Int)} {Y:List (List (List Int))} {bc:List AV} {H:HP} (h:RgP lo m P B X Y bc H) (hn:n≤lo):Fz H (blw n H) (.g [ints os,P,B]) (prs os X Y):=by
  refine .g _ _ rfl fun k x y hx hy=>?_
  match k,hx,hy with
  |0,hx,hy=>cases hx;cases hy;exact .refl _
  | 1,hx,hy=>
    cases hx;cases hy
    rw[rows_v]
    exact h.p.fz hn rfl fun k x y g1 g2=>by rw[g1]at g2;cases g2;exact .refl _
  | 2,hx,hy=>
    cases hx;cases hy
    rw[cubes_v]
    refine h.b.fz hn (by rw[List.length_map,h.bl]) fun k x y g1 g2=>?_
    have hk:k<Y.length:=by have:=(List.getElem?_eq_some_iff.1 g2).1;simpa using this
    have hx1:x=bc.getD k .nl:=by rw[List.getD_eq_getElem?_getD,g1];rfl
    have hy1:y=rows (Y.getD k []):=by
      rw[List.getElem?_map,List.getElem?_eq_getElem hk]at g2
      rw[List.getD_eq_getElem?_getD,List.getElem?_eq_getElem hk]
      exact(Option.some.inj g2).symm
    subst hx1 hy1
    rw[rows_v]
    exact(h.c k hk).fz hn rfl fun k x y g1 g2=>by rw[g1]at g2;cases g2;exact .refl _
theorem isH_lc {H:HP} {a m:Nat} {L:AV} {ts:List AV} {ids:List Nat} {n:Nat} (h:Ow H L (.v n ts) ids) (hi:isH L=true) (hb:∀i∈ids,a≤i∧i<m):(L= .nl∧ts=[]∧ids=[])∨∃q cs ids',L= .h q 0 cs.length∧H q=some cs∧ts.length=cs.length∧ids=q::ids'∧OwL H cs ts ids'∧a≤q∧q<m:=by
  rcases h.vInv _ _ rfl with ⟨rfl,_⟩|⟨rfl,rfl,rfl,rfl⟩|⟨id,cs,ids',rfl,rfl,g1,g2,g3⟩
  · cases hi
  · exact .inl ⟨rfl,rfl,rfl⟩
  have:=hb id (by simp)
  exact .inr ⟨id,cs,ids',by rw[g2],g1,g3.len,rfl,g3,this.1,this.2⟩
theorem rowTop {H:HP} {a m:Nat} {L:AV} {W:List (List Int)} {ids:List Nat} (h:Ow H L (rows W) ids) (hi:isH L=true) (hb:∀i∈ids,a≤i∧i<m) (hnd:ids.Nodup):
    ∃y:List AV×List Nat,OwL H y.1 (W.map ints) y.2∧(∀i,bk L=i+1→H i=some y.1∧i∈ids∧i∉y.2)∧(∀i∈y.2,i∈ids)∧∀H2:HP,(∀i,bk L=i+1→H2 i=some (W.map ints))→LC H2 a m L (W.map ints):=by
  rw[rows_v]at h
  rcases isH_lc h hi hb with ⟨rfl,h1,rfl⟩|⟨q,cs,js,rfl,h1,h2,rfl,h3,h4,h5⟩
  · refine⟨([],[]),?_,by simp[bk],by simp,fun H2 _=>?_⟩
    · rw[h1];exact .nil
    rw[h1];exact .nil
  have hq:=List.nodup_cons.1 hnd
  refine⟨(cs,js),h3,fun i e=>?_,fun i hi=>by simp[hi],fun H2 hz=> .inr ⟨q,by rw[h2],hz q rfl,h4,h5⟩⟩
  simp only[bk]at e
  obtain rfl:i=q:=by omega
  exact⟨h1,by simp,hq.1⟩
open Classical in

theorem PgW.rg {a m:Nat} {H:HP} {r P B:AV} {os:List Int} {X:List (List Int)} {Y:List (List (List Int))} {cp cb:List AV} (h:PgW a m H r P B os X Y cp cb):
    ∃H2,FzH H H2∧Fz H H2 (.g [r,P,B]) (.g [ints os,P,B])∧RgP a m P B X Y cb H2∧∀j,(j<a∨m≤j)→H2 j=H j:=by
  obtain⟨⟨i0,i1,i2,⟨h0,h1,h2⟩,hnd,hbd⟩,hP,hB,hih⟩:=h
  have hb0:∀i∈i0,a≤i∧i<m:=fun i hi=>hbd i (by simp[hi])
  have hb1:∀i∈i1,a≤i∧i<m:=fun i hi=>hbd i (by simp[hi])
  have hb2:∀i∈i2,a≤i∧i<m:=fun i hi=>hbd i (by simp[hi])
  rw[List.nodup_append]at hnd
  obtain⟨n0,n12,d0⟩:=hnd
  rw[List.nodup_append]at n12
  obtain⟨n1,n2,d12⟩:=n12
  have d01:∀i∈i0,i∉i1:=fun i hi hi2=>d0 i hi i (by simp[hi2]) rfl
  have d02:∀i∈i0,i∉i2:=fun i hi hi2=>d0 i hi i (by simp[hi2]) rfl
  have d12':∀i∈i1,i∉i2:=fun i hi hi2=>d12 i hi i hi2 rfl
  obtain⟨⟨cP,jP⟩,p1,p2,p3,p4⟩:=rowTop h1 hP.isH hb1 n1
  dsimp only at p1 p2 p3
  --the outer list of conjugates
  obtain⟨j2,o1,o2,o3,o4⟩:∃j2,OwL H cb (Y.map rows) j2∧(∀i,bk B=i+1→H i=some cb∧i∈i2∧i∉j2)∧(∀i∈j2,i∈i2)∧j2.Nodup:=by
    rw[cubes_v]at h2
    rcases h2.lc hB with ⟨rfl,rfl,_,e,rfl⟩|⟨b,ids',rfl,g1,_,rfl,g2⟩
    · refine⟨[],by rw[e];exact .nil,by simp[bk],by simp,by simp⟩
    · have hq:=List.nodup_cons.1 n2
      refine⟨ids',g2,fun i e=>?_,fun i hi=>by simp[hi],hq.2⟩
      simp only[bk]at e
      obtain rfl:i=b:=by omega
      exact⟨g1,by simp,hq.1⟩
  have hcl:cb.length=Y.length:=by have:=o1.len;simpa using this.symm
  obtain⟨J,f1,f2,_,f3⟩:=o1.fam
  obtain⟨f4,f5⟩:=f3 o4
  have hk0:∀k,∃y:List AV×List Nat,k<Y.length→(OwL H y.1 ((Y.getD k []).map ints) y.2∧(∀i,bk (cb.getD k .nl)=i+1→H i=some y.1∧i∈J k∧i∉y.2)∧(∀i∈y.2,i∈J k)∧∀H2:HP,(∀i,bk (cb.getD k .nl)=i+1→H2 i=some ((Y.getD k []).map ints))→LC H2 a m (cb.getD k .nl) ((Y.getD k []).map ints)):=fun k=>by
    by_cases hk:k<Y.length
    · have g:=f1 k (by omega)
      rw[show(Y.map rows).getD k .nl=rows (Y.getD k []) by simp[hk]]at g
      obtain⟨y,hy⟩:=rowTop g (hih _ (by rw[List.getD_eq_getElem?_getD,List.getElem?_eq_getElem (show k<cb.length by omega)];exact List.getElem_mem _)) (fun i hi=>hb2 i (o3 i (f2 k (by omega) i hi))) (f4 k)
      exact⟨y,fun _=>hy⟩
    · exact⟨([],[]),fun h=>absurd h hk⟩
  obtain⟨c,hc⟩:=Classical.axiomOfChoice hk0
  have q1:∀k i,k<Y.length→bk (cb.getD k .nl)=i+1→i∈J k∧i∈j2:=fun k i hk e=>⟨((hc k hk).2.1 i e).2.1,f2 k (by omega) i ((hc k hk).2.1 i e).2.1⟩
  have hpb:bk P=0∨bk P≠bk B:=by
    by_cases e:bk P=0
    · exact .inl e
    · refine .inr fun e2=>?_
      have g1:=(p2 (bk P-1) (by omega)).2.1
      have g2:=(o2 (bk P-1) (by omega)).2.1
      exact d12' _ g1 g2
  have hpc:∀k,k<Y.length→bk (cb.getD k .nl)=0∨(bk (cb.getD k .nl)≠bk P∧bk (cb.getD k .nl)≠bk B):=fun k hk=>by
    by_cases e:bk (cb.getD k .nl)=0
    · exact .inl e
    · have g:=q1 k (bk (cb.getD k .nl)-1) hk (by omega)
      refine .inr ⟨fun e2=>?_,fun e2=>?_⟩
      · exact d12' _ (p2 (bk (cb.getD k .nl)-1) (by omega)).2.1 (o3 _ g.2)
      · exact(o2 (bk (cb.getD k .nl)-1) (by omega)).2.2 g.2
  have hcc:∀j k,j<Y.length→k<Y.length→j≠k→bk (cb.getD j .nl)=0∨bk (cb.getD j .nl)≠bk (cb.getD k .nl):=fun j k hj hk hjk=>by
    by_cases e:bk (cb.getD j .nl)=0
    · exact .inl e
    · refine .inr fun e2=>?_
      have g1:=q1 j (bk (cb.getD j .nl)-1) hj (by omega)
      have g2:=q1 k (bk (cb.getD j .nl)-1) hk (by omega)
      exact f5 j k hjk _ g1.1 g2.1
  obtain⟨H2,hH2⟩:∃H2:HP,H2=fun j=>if bk P=j+1 then some (X.map ints)else if bk B=j+1 then some cb else if h:∃k,k<Y.length∧bk (cb.getD k .nl)=j+1 then some ((Y.getD (Classical.choose h) []).map ints)else if j∈i0++(i1++i2)then none else H j:=⟨_,rfl⟩
  have eP:∀i,bk P=i+1→H2 i=some (X.map ints):=fun i e=>by rw[hH2];simp only[e,if_true]
  have eB:∀i,bk B=i+1→H2 i=some cb:=fun i e=>by
    rw[hH2];dsimp only
    rw[if_neg (by omega),if_pos e]
  have eq:∀k i,k<Y.length→bk (cb.getD k .nl)=i+1→H2 i=some ((Y.getD k []).map ints):=fun k i hk e=>by
    have g:=hpc k hk
    have hex:∃k,k<Y.length∧bk (cb.getD k .nl)=i+1:=⟨k,hk,e⟩
    rw[hH2];dsimp only
    rw[if_neg (by omega),if_neg (by omega),dif_pos hex]
    have hs:=Classical.choose_spec hex
    have:Classical.choose hex=k:=by
      apply Classical.byContradiction
      intro hne
      rcases hcc _ k hs.1 hk hne with g|g
      · omega
      · exact g (by rw[hs.2,e])
    rw[this]
  have eN:∀i,i∈i0++(i1++i2)→bk P≠i+1→bk B≠i+1→(∀k,k<Y.length→bk (cb.getD k .nl)≠i+1)→H2 i=none:=fun i hi g1 g2 g3=>by
    rw[hH2];dsimp only
    rw[if_neg g1,if_neg g2,dif_neg (fun ⟨k,hk,e⟩=>g3 k hk e),if_pos hi]
  have eO:∀i,i∉i0++(i1++i2)→H2 i=H i:=fun i hi=>by
    rw[hH2];dsimp only
    rw[if_neg (fun e=>hi (by simp[(p2 i e).2.1])),if_neg (fun e=>hi (by simp[(o2 i e).2.1])),dif_neg (fun ⟨k,hk,e⟩=>hi (by simp[o3 i (q1 k i hk e).2])),if_neg hi]
  have z0:∀i∈i0,H2 i=none:=fun i hi=>eN i (by simp[hi]) (fun e=>d01 i hi (p2 i e).2.1) (fun e=>d02 i hi (o2 i e).2.1) (fun k hk e=>d02 i hi (o3 i (q1 k i hk e).2))
  have zP:∀i∈jP,H2 i=none:=fun i hi=>eN i (by simp[p3 i hi]) (fun e=>(p2 i e).2.2 hi) (fun e=>d12' i (p3 i hi) (o2 i e).2.1) (fun k hk e=>d12' i (p3 i hi) (o3 i (q1 k i hk e).2))
  have zJ:∀k,k<Y.length→∀i∈(c k).2,H2 i=none:=fun k hk i hi=>by
    have g1:=(hc k hk).2.2.1 i hi
    have g2:=f2 k (by omega) i g1
    refine eN i (by simp[o3 i g2]) (fun e=>d12' i (p2 i e).2.1 (o3 i g2)) (fun e=>(o2 i e).2.2 g2) (fun k' hk' e=>?_)
    by_cases ekk:k'=k
    · subst ekk;exact((hc k' hk').2.1 i e).2.2 hi
    · exact f5 k' k ekk i (q1 k' i hk' e).1 g1
  refine⟨H2,fun i cs' hi=>?_,?_,⟨p4 H2 eP,?_,hcl,fun k hk=>(hc k hk).2.2.2 H2 (fun i e=>eq k i hk e),hpb,hpc,hcc⟩,fun j hj=>eO j (fun hm=>?_)⟩
  · by_cases e1:bk P=i+1
    · rw[eP i e1]at hi;cases hi
      exact⟨cP,(p2 i e1).1,by rw[←p1.len],fun k x y hx hy=>p1.fzTo zP k x y hx hy⟩
    · by_cases e2:bk B=i+1
      · rw[eB i e2]at hi;cases hi
        exact⟨cb,(o2 i e2).1,rfl,fun k x y hx hy=>by rw[hx]at hy;cases hy;exact .refl _⟩
      · by_cases e3:∃k,k<Y.length∧bk (cb.getD k .nl)=i+1
        · obtain⟨k,hk,e⟩:=e3
          rw[eq k i hk e]at hi;cases hi
          have g:=hc k hk
          exact⟨(c k).1,(g.2.1 i e).1,by rw[←g.1.len],fun j x y hx hy=>g.1.fzTo (zJ k hk) j x y hx hy⟩
        · by_cases e4:i∈i0++(i1++i2)
          · rw[eN i e4 e1 e2 (fun k hk e=>e3 ⟨k,hk,e⟩)]at hi;cases hi
          · rw[eO i e4]at hi
            exact⟨cs',hi,rfl,fun k x y hx hy=>by rw[hx]at hy;cases hy;exact .refl _⟩
  · refine .g _ _ rfl fun k x y hx hy=>?_
    match k,hx,hy with
    |0,hx,hy=>cases hx;cases hy;exact h0.fzTo z0
    |1,hx,hy=>cases hx;cases hy;exact .refl _
    |2,hx,hy=>cases hx;cases hy;exact .refl _
  · rcases hB with ⟨rfl,rfl⟩|⟨b,rfl,g0,g1,g2⟩
    · exact .nil
    · exact .inr ⟨b,rfl,eB b rfl,g1,g2⟩
  · have:=hbd j hm;omega
theorem PgW.ids {a m:Nat} {H:HP} {r P B:AV} {os:List Int} {X:List (List Int)} {Y:List (List (List Int))} {cp cb:List AV} (h:PgW a m H r P B os X Y cp cb):
    ∃Z ids,Own a m H (.g [r,P,B]) Z ids∧∀H',(∀i∈ids,H' i=H i)→PgW a m H' r P B os X Y cp cb:=by
  obtain⟨⟨i0,i1,i2,⟨h0,h1,h2⟩,hnd,hbd⟩,hP,hB,hih⟩:=h
  refine⟨_,i0++(i1++(i2++[])),⟨.g _ _ _ (.cons _ _ _ _ _ _ h0 (.cons _ _ _ _ _ _ h1 (.cons _ _ _ _ _ _ h2 .nil))),by simpa using hnd,by simpa using hbd⟩,fun H' hk=>?_⟩
  have b1:=h1;have b2:=h2
  rw[rows_v]at b1
  rw[cubes_v]at b2
  exact⟨⟨i0,i1,i2,⟨h0.keep fun i hi=>hk i (by simp[hi]),h1.keep fun i hi=>hk i (by simp[hi]),h2.keep fun i hi=>hk i (by simp[hi])⟩,hnd,hbd⟩,hP.keep1 (fun i hi=>hk i (by simp[b1.bk_in hP hi])),hB.keep1 (fun i hi=>hk i (by simp[b2.bk_in hB hi])),hih⟩
def rgK (nx:Nat) (H:HP) (os:List Int) (X:List (List Int)) (Y:List (List (List Int))):Nat→HP→AV→Prop:=fun nx' H' r=>∃P B bc,r= .g [ints os,P,B]∧RgP nx nx' P B X Y bc H'∧∀i,i<nx→H' i=H i
theorem AC.rg {P:Program} {f:FuncId} {nx:Nat} {H:HP} {xs ts:List AV} {os:List Int} {X:List (List Int)} {Y:List (List (List Int))}
    (h:AC P f nx noH ts (fun nx' H' r=>∃r0 P B cp cb,r= .g [r0,P,B]∧PgW nx nx' H' r0 P B os X Y cp cb)) (hv:Vws H xs ts):AC P f nx H xs (rgK nx H os X Y):=by
  refine(AC.ownQ h (fun n H0 r ⟨r0,P,B,cp,cb,e,hW⟩=>?_) hv).frz fun nx' H' r ⟨⟨r0,P,B,cp,cb,e,hW⟩,hlow⟩=>?_
  · obtain⟨Z,ids,ho,hk⟩:=hW.ids
    exact⟨Z,ids,by rw[e];exact ho,fun H' hk2=>⟨r0,P,B,cp,cb,e,hk H' hk2⟩⟩
  obtain⟨H2,g1,g2,g3,g4⟩:=hW.rg
  exact⟨H2,_,g1,by rw[e];exact g2,P,B,cb,rfl,g3,fun i hi=>(g4 i (.inl hi)).trans (hlow i hi)⟩
end Go.Proofs.YtghmeeifjeafmaaGreat
