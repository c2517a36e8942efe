import Derived.Test.YtgknbnkmilddhaaGreatZ04
import Derived.Test.YtgknbnkmilddhaaGreatZ06
import Derived.Test.YtgknbnkmilddhaaGreatZ08
import Derived.Test.YtgknbnkmilddhaaGreatZ09
import Derived.Test.YtgknbnkmilddhaaGreatZ12
import Derived.Test.YtgknbnkmilddhaaGreatZ14
import Derived.Test.YtgknbnkmilddhaaGreatZ15
set_option linter.all false

open Go.Proofs.Tryz
namespace Go.Proofs.YtgknbnkmilddhaaGreat
section
def AC.frz{P f nx H xs Q Q'}(h:AC P f nx H xs Q)(hq:∀n H' r,Q n H' r->∃H2 r2,eL H' H2/\Fz H' H2 r r2/\Q' n H2 r2):AC P f nx H xs Q':=
 ⟨h.1,λL Av w us a b c=>(h.2 L Av w us a b c).mono λe w' ⟨u,r,L',DI,H',h1,h2,h3,h4,h5,h6,h7,h8⟩=>by
  obtain⟨H2,r2,g1,g2,g3⟩:=hq _ _ _ h2;exact⟨u,r2,L',DI,H2,h1,g3,h3,h4,h5,h6.fz g1,⟨h7.le,h7.os,h7.tape,h7.output,h7.size,h7.BV,λb hb hl=>h7.old b hb (g1.lb hl)⟩,g2.sound h6 g1 h8⟩⟩
def kA{P f nx H xs ts Q}(h:AC P f nx DD ts Q)(hQ:∀n H0 r,Q n H0 r->∃X ids,Own nx n H0 r X ids/\∀H',(∀i∈ids,H' i=H0 i)->Q n H' r)(hv:wU H xs ts):
    AC P f nx H xs λDI H' r=>Q DI H' r/\∀i,i<nx->H' i=H i:=by
  obtain⟨he,O7⟩:=h;refine⟨he,λL Av w us hs GM ha=>(O7 L Av w us (fT hs.cW) GM (by rw[fU];exact ha.view hs hv)).mono ?_⟩;rintro e w' ⟨u,r,L',DI,H',h1,hq,h3,h4,h5,h6,h7,h8⟩;obtain⟨X,ids,⟨h2,J7,A5A⟩,XA⟩:=hQ _ _ _ hq;obtain⟨Vf,Jx⟩:=h2.fl;have hHn:∀i,nx<=i->H i=none:=by
    intro i hi;cases hh:H i with
    |none=>rfl
    |some cs=>obtain⟨l,g1,_⟩:=hs.node i cs hh;rw[GM i hi]at g1;cases g1
  let H2:HP:=λi=>if i<nx then H i else if i∈ids then H' i else none
  have IA:∀i,i<nx->H2 i=H i:=λi hi=>by simp only[H2,hi,if_true]
  have AAY:∀i∈ids,H2 i=H' i:=by
    intro i hi;have:=A5A i hi;simp only[H2];rw[if_neg A0,if_pos hi]
  have Y8:∀b,b<w.heap.size->w'.heap[b]? =w.heap[b]? :=λb hb=>h7.BV b hb SG
  have live:∀i cs,H2 i=some cs->(i<nx/\H i=some cs)\/(i∈ids/\nx<=i/\H' i=some cs):=by
    intro i cs hi;simp only[H2]at hi;split at hi
    · exact .inl ⟨by assumption,hi⟩
    split at hi
    · exact .inr ⟨by assumption,A0,hi⟩
    cases hi
  have UL:∀i cs l,H' i=some cs->L' i=some l->w.heap.size<=l.IY:=by
    intro i cs l g1 g2;apply AN;intro HX;exact SG (h7.old l.IY A0 ⟨i,cs,l,g1,g2,rfl⟩)
  have M4:Step L H w L' H2 w':=by
    refine⟨h7.le,h7.os,h7.tape,h7.output,h7.size,λb hb _=>Y8 b hb,?_⟩;rintro b hb ⟨i,cs,l,g1,g2,g3⟩;rcases live i cs g1 with ⟨g4,g5⟩|⟨g4,g5,g6⟩
    · exact⟨i,cs,l,g5,by rw[<-h5 i g4];exact g2,g3⟩
    have:=UL i cs l g6 g2;omega
  have hsr:SR L' H2 Av w':=by
    refine⟨?_,?_,?_,λb hb=>GA (hs.cW b hb) h7.size⟩
    · intro i cs hi;rcases live i cs hi with ⟨g4,g5⟩|⟨g4,g5,g6⟩
      · obtain⟨l,g7,JO⟩:=hs.node i cs g5;exact⟨l,by rw[h5 i g4];exact g7,JO.mono (Y8 _ JO.lt) λk x hk c g13=>g13.step M4⟩
      obtain⟨l,g7,JO⟩:=h6.node i cs g6;refine⟨l,g7,JO.mono rfl λk x hk c g13=>?_⟩;obtain⟨LI,g14,g15⟩:=Jx i g4;rw[g6]at g14;cases g14;exact g13.fl (λ_ _ h=>h) (g15 k x hk)
    · intro i i' cs LI l l' g1 g2 g3 g4 g5;rcases live i cs g1 with ⟨q1,q2⟩|⟨q1,q2,q3⟩<;>rcases live i' LI g2 with ⟨q4,q5⟩|⟨q4,q5',q6⟩
      · exact hs.inj i i' cs LI l l' q2 q5 (by rw[<-h5 i q1];exact g3) (by rw[<-h5 i' q4];exact g4) g5
      · have a1:=a7 hs ⟨i,cs,l,q2,by rw[<-h5 i q1];exact g3,rfl⟩;have a2:=UL i' LI l' q6 g4;omega
      · have a1:=a7 hs ⟨i',LI,l',q5,by rw[<-h5 i' q4];exact g4,rfl⟩;have a2:=UL i cs l q3 g3;omega
      exact h6.inj i i' cs LI l l' q3 q6 g3 g4 g5
    intro i cs l g1 g2;rcases live i cs g1 with ⟨q1,q2⟩|⟨q1,q2,q3⟩
    · exact hs.av i cs l q2 (by rw[<-h5 i q1];exact g2)
    exact h6.av i cs l q3 g2
  exact⟨u,r,L',DI,H2,h1,⟨XA H2 AAY,IA⟩,h3,h4,h5,hsr,M4,h8.fl (λ_ _ h=>h) Vf⟩

mutual
def Ow.bM{H H2 r X ids}(h:Ow H r X ids)(hz:∀i∈ids,H2 i=none):Fz H H2 r X:=by
 cases h with
 |leaf _ hf hn=>exact .refl _
 |nl=>exact .nl
 | h id cs ts I1 h1 h2=>
   have hl:=h2.len;exact .h id 0 _ cs ts h1 (hz id B5) B5 A0 λk x y hx hy=>h2.bM (λi hi=>hz i (by simp[hi])) k x y (by simpa using hx) hy
 | q id cs ts I1 h1 h2=>
   exact .q id 0 cs ts h1 (hz id B5) h2.len λk x y hx hy=>h2.bM (λi hi=>hz i (by simp[hi])) k x y hx hy
 |g cs ts I1 h2=>exact .g cs ts h2.len λk x y hx hy=>h2.bM hz k x y hx hy
 |t cs ts I1 h2=>exact .t cs ts h2.len λk x y hx hy=>h2.bM hz k x y hx hy
def PO.bM{H H2 cs ts ids}(h:PO H cs ts ids)(hz:∀i∈ids,H2 i=none):∀(k:Nat) (x y:AV),cs[k]? =some x->ts[k]? =some y->Fz H H2 x y:=by
 cases h with
 |nil=>intro k x y hx;simp at hx
 | cons x y xs ys is js h1 h2=>
   intro k x' y' hx hy;cases k with
   |zero=>simp at hx hy;subst hx hy;exact h1.bM (λi hi=>hz i (by simp[hi]))
   |succ k=>exact h2.bM (λi hi=>hz i (by simp[hi])) k x' y' (by simpa using hx) (by simpa using hy)
end
def TN(n:Nat)(H:HP):HP:=λi=>if i<n then H i else none
def EL{n i H}(h:i<n):TN n H i=H i:=by simp only[TN,h,if_true]
def bN{n i H}(h:n<=i):TN n H i=none:=by simp only[TN];rw[if_neg A0]
def eL.TN{n H}:eL H (Go.Proofs.YtgknbnkmilddhaaGreat.TN n H):=λj cs hj=>by
 by_cases e:j<n
 ·rw[EL e]at hj;exact⟨cs,hj,rfl,λk x y h1 h2=>by rw[h1]at h2;cases h2;exact .refl _⟩
 rw[bN A0]at hj;cases hj
def LC.fz{n H a b L cs ts}(h:LC H a b L cs)(hn:n<=a)(hl:ts.length=cs.length)(hc:∀(k:Nat) (x y:AV),cs[k]? =some x->ts[k]? =some y->Fz H (TN n H) x y):Fz H (TN n H) L (.v ts.length ts):=by
 rcases h with ⟨rfl,rfl⟩|⟨id,rfl,h0,h1,h2⟩
 ·rw[AX.1 hl];exact .nl
 rw[hl];exact .h id 0 _ cs ts h0 (bN A0) B5 hl λk x y hx hy=>hc k x y (by simpa using hx) hy
def PO.fam{H}:∀{cs ts:List AV} {ids:List Nat},PO H cs ts ids->∃J:Nat->List Nat,(∀k,k<cs.length->Ow H (cs.getD k .nl) (ts.getD k .nl) (J k))/\(∀k,k<cs.length->∀i∈J k,i∈ids)/\(∀k,cs.length<=k->J k=[])/\(ids.Nodup->(∀k,(J k).Nodup)/\∀j k,j≠k->∀i∈J j,i∉J k):=by
 intro cs;induction cs with
 |nil=>intro ts ids h;exact⟨λ_=>[],B5,B5,B5,B5⟩
 | cons c cs ih=>
   intro ts ids h;cases h with
   |cons x y xs ys is js h1 h2=>
    obtain⟨J,g1,g2,g0,g3⟩:=ih h2;refine⟨λk=>match k with|0=>is|k+1=>J k,λk hk=>?_,λk hk i hi=>?_,λk hk=>?_,λhn=>?_⟩
    ·cases k with
     |zero=>simpa using h1
     |succ k=>simpa using g1 k (by simpa using hk)
    ·cases k with
     |zero=>simp at hi ⊢;exact .inl hi
     |succ k=>simp at hi ⊢;exact .inr (g2 k (by simpa using hk) i hi)
    ·cases k with
     |zero=>simp at hk
     |succ k=>exact g0 k (by simpa using hk)
    rw[BA]at hn;obtain⟨n1,n2,n3⟩:=hn;obtain⟨g4,g5⟩:=g3 n2;have mem:∀k i,i∈J k->i∈js:=λk i hi=>by
     by_cases hk:k<cs.length
     · exact g2 k hk i hi
     rw[g0 k A0]at hi;cases hi
    refine⟨λk=>?_,λj k Dh i hi l5=>?_⟩
    ·cases k with
     |zero=>exact n1
     |succ k=>exact g4 k
    cases j with
    |zero=>
     cases k with
     |zero=>exact Dh rfl
     |succ k=>exact n3 i hi i (mem k i l5) rfl
    |succ j=>
     cases k with
     |zero=>exact n3 i l5 i (mem j i hi) rfl
     |succ k=>exact g5 j k A0 i hi l5
structure Rn(lo m:Nat)(P B:AV)(X:D4)(Y:E6)(bc:List AV)(H:HP):Prop where
 p:LC H lo m P (X.map ints)
 b:LC H lo m B bc
 bl:bc.length=Y.length
 c:∀k,k<Y.length->LC H lo m (bc.getD k .nl) ((Y.getD k []).map ints)
 pb:bk P=0\/bk P≠bk B
 pc:∀k,k<Y.length->bk (bc.getD k .nl)=0\/(bk (bc.getD k .nl)≠bk P/\bk (bc.getD k .nl)≠bk B)
 cc:∀j k,j<Y.length->k<Y.length->j≠k->bk (bc.getD j .nl)=0\/bk (bc.getD j .nl)≠bk (bc.getD k .nl)
def Rn.BV{lo lo' m m' P B X Y bc H H'}(h:Rn lo m P B X Y bc H)(hk:∀j,lo<=j->j<m->H' j=H j)(hl:lo'<=lo)(hm:m<=m'):Rn lo' m' P B X Y bc H':=
 ⟨(h.p.BV hk).wide hl hm,(h.b.BV hk).wide hl hm,h.bl,λk NC=>((h.c k NC).BV hk).wide hl hm,h.pb,h.pc,h.cc⟩
def LC.pos{H a b L cs}(h:LC H a b L cs)(hp:0<cs.length):∃id,L= .h id 0 cs.length/\H id=some cs/\a<=id/\id<b:=by
 rcases h with ⟨_,rfl⟩|h
 ·simp at hp
 exact h
def Rn.bO{lo m k P B X Y bc H}(h:Rn lo m P B X Y bc H)(hk:k<X.length):
    ∃p,P= .h p 0 X.length/\H p=some (X.map ints)/\(lo<=p/\p<m)/\∀(H':HP) (w:C2) (lo' m':Nat),H' p=some (DH (X.map ints) k [ints w])->(∀j,lo<=j->j<m->j≠p->H' j=H j)->lo'<=lo->m<=m'->Rn lo' m' P B (X.set k w) Y bc H':=by
  obtain⟨p,e,h1,h2,h3⟩:=h.p.pos (by simpa using(by omega:0<X.length));rw[A4]at e;refine⟨p,e,h1,⟨h2,h3⟩,λH' w lo' m' hp PU hl hm=>?_⟩;subst e;have hs:DH (X.map ints) k [ints w]=(X.set k w).map ints:=by rw[OW _ _ _ (by simpa using hk),HK]
  have VO:∀i,bk B=i+1->i≠p:=λi hi e=>by
    rcases h.pb with g|g
    · simp[bk]at g
    exact g (by rw[hi,e];rfl)
  refine⟨.inr ⟨p,B5,by rw[hp,hs],A0,A0⟩,?_,h.bl,λj hj=>?_,h.pb,h.pc,h.cc⟩
  · exact(h.b.RQ (λi hi=>PU i (by have:=h.b.bd;omega) (by have:=h.b.bd;omega) (VO i hi))).wide hl hm
  have hb:=(h.c j hj).bd;refine((h.c j hj).RQ (λi hi=>PU i A0 A0 (λe=>?_))).wide hl hm;rcases h.pc j hj with g|g
  · omega
  exact g.1 (by rw[hi,e];rfl)
def Rn.kB{lo m k l P B X Y bc H}(h:Rn lo m P B X Y bc H)(hk:k<Y.length)(hl:l<(Y.getD k []).length):
    ∃ b q,B= .h b 0 Y.length/\H b=some bc/\(lo<=b/\b<m)/\bc.getD k .nl= .h q 0 (Y.getD k []).length/\bc.getD k .j= .h q 0 (Y.getD k []).length/\H q=some ((Y.getD k []).map ints)/\(lo<=q/\q<m)/\b≠q/\
      ∀(H':HP) (w:C2) (lo' m':Nat),H' q=some (DH ((Y.getD k []).map ints) l [ints w])->(∀j,lo<=j->j<m->j≠q->H' j=H j)->lo'<=lo->m<=m'->Rn lo' m' P B X (Y.set k ((Y.getD k []).set l w)) bc H':=by
  obtain⟨b,e,h1,h2,h3⟩:=h.b.pos (by rw[h.bl];omega);obtain⟨q,e2,g1,g2,g3⟩:=(h.c k hk).pos (by rw[A4];omega);rw[A4]at e2;rw[h.bl]at e;have e3:bc.getD k .j= .h q 0 (Y.getD k []).length:=by
    rw[<-e2];have:=h.bl;simp[List.getD,show k<bc.length by omega]
  have hq:=h.pc k hk;rw[e2]at hq;have dB:bk P≠q+1:=by
    rcases hq with g|g
    · simp[bk]at g
    exact λe=>g.1 e.symm
  have XA:b≠q:=by
    rcases hq with g|g
    · simp[bk]at g
    intro e4;apply g.2;rw[e,<-e4];rfl
  refine⟨b,q,e,h1,⟨h2,h3⟩,e2,e3,g1,⟨g2,g3⟩,XA,λH' w lo' m' hp PU cZ hm=>?_⟩;have hs:DH ((Y.getD k []).map ints) l [ints w]=((Y.getD k []).set l w).map ints:=by rw[OW _ _ _ (by simpa using hl),HK]
  have Fw:(Y.set k ((Y.getD k []).set l w)).length=Y.length:=B5;refine⟨?_,?_,by rw[Fw];exact h.bl,λj hj=>?_,h.pb,by rw[Fw];exact h.pc,by rw[Fw];exact h.cc⟩
  · exact(h.p.RQ (λi hi=>PU i (by have:=h.p.bd;omega) (by have:=h.p.bd;omega) A0)).wide cZ hm
  · refine(h.b.RQ (λi hi=>PU i (by have:=h.b.bd;omega) (by have:=h.b.bd;omega) ?_)).wide cZ hm;rw[e]at hi;simp only[bk]at hi;omega
  rw[Fw]at hj;by_cases ejk:j=k
  · subst ejk;rw[e2,show(Y.set j ((Y.getD j []).set l w)).getD j []=(Y.getD j []).set l w by simp[hj]];exact .inr ⟨q,B5,by rw[hp,hs],A0,A0⟩
  rw[show(Y.set k ((Y.getD k []).set l w)).getD j []=Y.getD j [] by rw[A5,LZ A0,<-A5]];have hb:=(h.c j hj).bd;refine((h.c j hj).RQ (λi hi=>PU i A0 A0 (λe4=>?_))).wide cZ hm;rcases h.cc j k hj hk ejk with g|g
  · omega
  exact g (by rw[hi,e2,e4];rfl)
def Rn.fz{lo m n P B U X Y bc H}(h:Rn lo m P B X Y bc H)(hn:n<=lo):Fz H (TN n H) (.g [ints U,P,B]) (CI U X Y):=by
 refine .g _ _ rfl λk x y hx hy=>?_
 match k,hx,hy with
 |0,hx,hy=>cases hx;cases hy;exact .refl _
 | 1,hx,hy=>
   cases hx;cases hy;rw[SK];exact h.p.fz hn rfl λk x y g1 g2=>by rw[g1]at g2;cases g2;exact .refl _
 | 2,hx,hy=>
   cases hx;cases hy;rw[YK];refine h.b.fz hn (by rw[A4,h.bl]) λk x y g1 g2=>?_
   have hk:k<Y.length:=by have:=(AL.1 g2).1;simpa using this
   have Di:x=bc.getD k .nl:=by rw[A5,g1];rfl
   have Xr:y=rows (Y.getD k []):=by
    rw[BF,A9 hk]at g2;rw[A5,A9 hk];exact(F5 g2).symm
   subst Di Xr;rw[SK];exact(h.c k hk).fz hn rfl λk x y g1 g2=>by rw[g1]at g2;cases g2;exact .refl _
def AEF{H a m L ts ids n}(h:Ow H L (.v n ts) ids)(hi:xJ L=true)(hb:∀i∈ids,a<=i/\i<m):(L= .nl/\ts=[]/\ids=[])\/∃q cs I1,L= .h q 0 cs.length/\H q=some cs/\ts.length=cs.length/\ids=q::I1/\PO H cs ts I1/\a<=q/\q<m:=by
 rcases h.tA _ _ rfl with ⟨rfl,_⟩|⟨rfl,rfl,rfl,rfl⟩|⟨id,cs,I1,rfl,rfl,g1,g2,g3⟩
 ·cases hi
 ·exact .inl ⟨rfl,rfl,rfl⟩
 have:=hb id B5;exact .inr ⟨id,cs,I1,by rw[g2],g1,g3.len,rfl,g3,this.1,this.2⟩
def A2H{H a m L W ids}(h:Ow H L (rows W) ids)(hi:xJ L=true)(hb:∀i∈ids,a<=i/\i<m)(JO:ids.Nodup):
    ∃y:List AV×List Nat,PO H y.1 (W.map ints) y.2/\(∀i,bk L=i+1->H i=some y.1/\i∈ids/\i∉y.2)/\(∀i∈y.2,i∈ids)/\∀H2:HP,(∀i,bk L=i+1->H2 i=some (W.map ints))->LC H2 a m L (W.map ints):=by
  rw[SK]at h;rcases AEF h hi hb with ⟨rfl,h1,rfl⟩|⟨q,cs,js,rfl,h1,h2,rfl,h3,h4,h5⟩
  · refine⟨([],[]),?_,by simp[bk],B5,λH2 _=>?_⟩
    · rw[h1];exact .nil
    rw[h1];exact .nil
  have hq:=C1.1 JO;refine⟨(cs,js),h3,λi e=>?_,λi hi=>by simp[hi],λH2 hz=> .inr ⟨q,by rw[h2],hz q rfl,h4,h5⟩⟩;simp only[bk]at e;obtain rfl:i=q:=A0;exact⟨h1,B5,hq.1⟩
open Classical in
def gG.rg{a m H r P B U X Y cp cb}(h:gG a m H r P B U X Y cp cb):
    ∃H2,eL H H2/\Fz H H2 (.g [r,P,B]) (.g [ints U,P,B])/\Rn a m P B X Y cb H2/\∀j,(j<a\/m<=j)->H2 j=H j:=by
  obtain⟨⟨i0,i1,i2,⟨h0,h1,h2⟩,JO,jV⟩,hP,hB,Gi⟩:=h;have iU:∀i∈i0,a<=i/\i<m:=λi hi=>jV i (by simp[hi])
  have UK:∀i∈i1,a<=i/\i<m:=λi hi=>jV i (by simp[hi])
  have W3:∀i∈i2,a<=i/\i<m:=λi hi=>jV i (by simp[hi])
  rw[BA]at JO;obtain⟨n0,n12,d0⟩:=JO;rw[BA]at n12;obtain⟨n1,n2,d12⟩:=n12;have d01:∀i∈i0,i∉i1:=λi hi l5=>d0 i hi i (by simp[l5]) rfl
  have d02:∀i∈i0,i∉i2:=λi hi l5=>d0 i hi i (by simp[l5]) rfl
  have A2I:∀i∈i1,i∉i2:=λi hi l5=>d12 i hi i l5 rfl
  obtain⟨⟨cP,jP⟩,p1,p2,p3,p4⟩:=A2H h1 hP.xJ UK n1;dsimp only at p1 p2 p3;obtain⟨j2,o1,o2,o3,o4⟩:∃j2,PO H cb (Y.map rows) j2/\(∀i,bk B=i+1->H i=some cb/\i∈i2/\i∉j2)/\(∀i∈j2,i∈i2)/\j2.Nodup:=by
    rw[YK]at h2;rcases h2.lc hB with ⟨rfl,rfl,_,e,rfl⟩|⟨b,I1,rfl,g1,_,rfl,g2⟩
    · refine⟨[],by rw[e];exact .nil,by simp[bk],B5,B5⟩
    · have hq:=C1.1 n2;refine⟨I1,g2,λi e=>?_,λi hi=>by simp[hi],hq.2⟩;simp only[bk]at e;obtain rfl:i=b:=A0;exact⟨g1,B5,hq.1⟩
  have KW:cb.length=Y.length:=by have:=o1.len;simpa using this.symm
  obtain⟨J,f1,f2,_,f3⟩:=o1.fam;obtain⟨f4,f5⟩:=f3 o4;have VW:∀k,∃y:List AV×List Nat,k<Y.length->(PO H y.1 ((Y.getD k []).map ints) y.2/\(∀i,bk (cb.getD k .nl)=i+1->H i=some y.1/\i∈J k/\i∉y.2)/\(∀i∈y.2,i∈J k)/\∀H2:HP,(∀i,bk (cb.getD k .nl)=i+1->H2 i=some ((Y.getD k []).map ints))->LC H2 a m (cb.getD k .nl) ((Y.getD k []).map ints)):=λk=>by
    by_cases hk:k<Y.length
    · have g:=f1 k A0;rw[show(Y.map rows).getD k .nl=rows (Y.getD k []) by simp[hk]]at g;obtain⟨y,hy⟩:=A2H g (Gi _ (by rw[A5,A9 (show k<cb.length by omega)];exact BK _)) (λi hi=>W3 i (o3 i (f2 k A0 i hi))) (f4 k);exact⟨y,λ_=>hy⟩
    · exact⟨([],[]),λh=>absurd h hk⟩
  obtain⟨c,hc⟩:=Classical.axiomOfChoice VW;have q1:∀k i,k<Y.length->bk (cb.getD k .nl)=i+1->i∈J k/\i∈j2:=λk i hk e=>⟨((hc k hk).2.1 i e).2.1,f2 k A0 i ((hc k hk).2.1 i e).2.1⟩
  have Pg:bk P=0\/bk P≠bk B:=by
    by_cases e:bk P=0
    · exact .inl e
    · refine .inr λe2=>?_
      have g1:=(p2 (bk P-1) A0).2.1;have g2:=(o2 (bk P-1) A0).2.1;exact A2I _ g1 g2
  have hpc:∀k,k<Y.length->bk (cb.getD k .nl)=0\/(bk (cb.getD k .nl)≠bk P/\bk (cb.getD k .nl)≠bk B):=λk hk=>by
    by_cases e:bk (cb.getD k .nl)=0
    · exact .inl e
    · have g:=q1 k (bk (cb.getD k .nl)-1) hk A0;refine .inr ⟨λe2=>?_,λe2=>?_⟩
      · exact A2I _ (p2 (bk (cb.getD k .nl)-1) A0).2.1 (o3 _ g.2)
      · exact(o2 (bk (cb.getD k .nl)-1) A0).2.2 g.2
  have wV:∀j k,j<Y.length->k<Y.length->j≠k->bk (cb.getD j .nl)=0\/bk (cb.getD j .nl)≠bk (cb.getD k .nl):=λj k hj hk Dh=>by
    by_cases e:bk (cb.getD j .nl)=0
    · exact .inl e
    · refine .inr λe2=>?_
      have g1:=q1 j (bk (cb.getD j .nl)-1) hj A0;have g2:=q1 k (bk (cb.getD j .nl)-1) hk A0;exact f5 j k Dh _ g1.1 g2.1
  obtain⟨H2,PF⟩:∃H2:HP,H2=λj=>if bk P=j+1 then some (X.map ints)else if bk B=j+1 then some cb else if h:∃k,k<Y.length/\bk (cb.getD k .nl)=j+1 then some ((Y.getD (Classical.choose h) []).map ints)else if j∈i0++(i1++i2)then none else H j:=⟨_,rfl⟩
  have eP:∀i,bk P=i+1->H2 i=some (X.map ints):=λi e=>by rw[PF];simp only[e,if_true]
  have eB:∀i,bk B=i+1->H2 i=some cb:=λi e=>by
    rw[PF];dsimp only;rw[if_neg A0,if_pos e]
  have eq:∀k i,k<Y.length->bk (cb.getD k .nl)=i+1->H2 i=some ((Y.getD k []).map ints):=λk i hk e=>by
    have g:=hpc k hk;have hex:∃k,k<Y.length/\bk (cb.getD k .nl)=i+1:=⟨k,hk,e⟩;rw[PF];dsimp only;rw[if_neg A0,if_neg A0,dif_pos hex];have hs:=PJ hex;have:Classical.choose hex=k:=by
      apply AN;intro CP;rcases wV _ k hs.1 hk CP with g|g
      · omega
      · exact g (by rw[hs.2,e])
    rw[this]
  have eN:∀i,i∈i0++(i1++i2)->bk P≠i+1->bk B≠i+1->(∀k,k<Y.length->bk (cb.getD k .nl)≠i+1)->H2 i=none:=λi hi g1 g2 g3=>by
    rw[PF];dsimp only;rw[if_neg g1,if_neg g2,dif_neg (λ⟨k,hk,e⟩=>g3 k hk e),if_pos hi]
  have eO:∀i,i∉i0++(i1++i2)->H2 i=H i:=λi hi=>by
    rw[PF];dsimp only;rw[if_neg (λe=>hi (by simp[(p2 i e).2.1])),if_neg (λe=>hi (by simp[(o2 i e).2.1])),dif_neg (λ⟨k,hk,e⟩=>hi (by simp[o3 i (q1 k i hk e).2])),if_neg hi]
  have z0:∀i∈i0,H2 i=none:=λi hi=>eN i (by simp[hi]) (λe=>d01 i hi (p2 i e).2.1) (λe=>d02 i hi (o2 i e).2.1) (λk hk e=>d02 i hi (o3 i (q1 k i hk e).2))
  have zP:∀i∈jP,H2 i=none:=λi hi=>eN i (by simp[p3 i hi]) (λe=>(p2 i e).2.2 hi) (λe=>A2I i (p3 i hi) (o2 i e).2.1) (λk hk e=>A2I i (p3 i hi) (o3 i (q1 k i hk e).2))
  have zJ:∀k,k<Y.length->∀i∈(c k).2,H2 i=none:=λk hk i hi=>by
    have g1:=(hc k hk).2.2.1 i hi;have g2:=f2 k A0 i g1;refine eN i (by simp[o3 i g2]) (λe=>A2I i (p2 i e).2.1 (o3 i g2)) (λe=>(o2 i e).2.2 g2) (λk' Y8 e=>?_);by_cases ekk:k'=k
    · subst ekk;exact((hc k' Y8).2.1 i e).2.2 hi
    · exact f5 k' k ekk i (q1 k' i Y8 e).1 g1
  refine⟨H2,λi LI hi=>?_,?_,⟨p4 H2 eP,?_,KW,λk hk=>(hc k hk).2.2.2 H2 (λi e=>eq k i hk e),Pg,hpc,wV⟩,λj hj=>eO j (λhm=>?_)⟩
  · by_cases e1:bk P=i+1
    · rw[eP i e1]at hi;cases hi;exact⟨cP,(p2 i e1).1,by rw[<-p1.len],λk x y hx hy=>p1.bM zP k x y hx hy⟩
    · by_cases e2:bk B=i+1
      · rw[eB i e2]at hi;cases hi;exact⟨cb,(o2 i e2).1,rfl,λk x y hx hy=>by rw[hx]at hy;cases hy;exact .refl _⟩
      · by_cases e3:∃k,k<Y.length/\bk (cb.getD k .nl)=i+1
        · obtain⟨k,hk,e⟩:=e3;rw[eq k i hk e]at hi;cases hi;have g:=hc k hk;exact⟨(c k).1,(g.2.1 i e).1,by rw[<-g.1.len],λj x y hx hy=>g.1.bM (zJ k hk) j x y hx hy⟩
        · by_cases e4:i∈i0++(i1++i2)
          · rw[eN i e4 e1 e2 (λk hk e=>e3 ⟨k,hk,e⟩)]at hi;cases hi
          · rw[eO i e4]at hi;exact⟨LI,hi,rfl,λk x y hx hy=>by rw[hx]at hy;cases hy;exact .refl _⟩
  · refine .g _ _ rfl λk x y hx hy=>?_
    match k,hx,hy with
    |0,hx,hy=>cases hx;cases hy;exact h0.bM z0
    |1,hx,hy=>cases hx;cases hy;exact .refl _
    |2,hx,hy=>cases hx;cases hy;exact .refl _
  · rcases hB with ⟨rfl,rfl⟩|⟨b,rfl,g0,g1,g2⟩
    · exact .nil
    · exact .inr ⟨b,rfl,eB b rfl,g1,g2⟩
  · have:=jV j hm;omega
def gG.ids{a m H r P B U X Y cp cb}(h:gG a m H r P B U X Y cp cb):
    ∃Z ids,Own a m H (.g [r,P,B]) Z ids/\∀H',(∀i∈ids,H' i=H i)->gG a m H' r P B U X Y cp cb:=by
  obtain⟨⟨i0,i1,i2,⟨h0,h1,h2⟩,JO,jV⟩,hP,hB,Gi⟩:=h;refine⟨_,i0++(i1++(i2++[])),⟨.g _ _ _ (.cons _ _ _ _ _ _ h0 (.cons _ _ _ _ _ _ h1 (.cons _ _ _ _ _ _ h2 .nil))),by simpa using JO,by simpa using jV⟩,λH' hk=>?_⟩;have b1:=h1;have b2:=h2;rw[SK]at b1;rw[YK]at b2;exact⟨⟨i0,i1,i2,⟨h0.BV λi hi=>hk i (by simp[hi]),h1.BV λi hi=>hk i (by simp[hi]),h2.BV λi hi=>hk i (by simp[hi])⟩,JO,jV⟩,hP.RQ (λi hi=>hk i (by simp[b1.yJ hP hi])),hB.RQ (λi hi=>hk i (by simp[b2.yJ hB hi])),Gi⟩
def rgK(nx:Nat)(H:HP)(U:C2)(X:D4)(Y:E6):Nat->HP->AV->Prop:=λDI H' r=>∃P B bc,r= .g [ints U,P,B]/\Rn nx DI P B X Y bc H'/\∀i,i<nx->H' i=H i
def AC.rg{P f nx H xs ts U X Y}(h:AC P f nx DD ts (λDI H' r=>∃r0 P B cp cb,r= .g [r0,P,B]/\gG nx DI H' r0 P B U X Y cp cb))(hv:wU H xs ts):AC P f nx H xs (rgK nx H U X Y):=by
 refine(kA h (λn H0 r ⟨r0,P,B,cp,cb,e,hW⟩=>?_) hv).frz λDI H' r ⟨⟨r0,P,B,cp,cb,e,hW⟩,IA⟩=>?_
 ·obtain⟨Z,ids,ho,hk⟩:=hW.ids;exact⟨Z,ids,by rw[e];exact ho,λH' NC=>⟨r0,P,B,cp,cb,e,hk H' NC⟩⟩
 obtain⟨H2,g1,g2,g3,g4⟩:=hW.rg;exact⟨H2,_,g1,by rw[e];exact g2,P,B,cb,rfl,g3,λi hi=>(g4 i (.inl hi)).trans (IA i hi)⟩
end
section
def LC.vwQ{H a b L cs}(h:LC H a b L cs):Vw H L (.v cs.length cs):=by
 rcases h with ⟨rfl,rfl⟩|⟨id,rfl,h0,_,_⟩
 ·exact .nl
 exact .h id 0 _ cs cs h0 A0 rfl λk x y hx hy=>by rw[BS]at hx;rw[hx]at hy;cases hy;exact .refl _
def rI(U:C2)(k:Nat):List V:=(List.range k).map λt:Nat=>iM U (t:Int)
def WC{U k}:(rI U k).length=k:=by simp[rI]
def AEG{U n k}(h:k<n):((rI U n).map (vi U.length)).getD k .j=vi U.length (iM U (k:Nat)):=by simp[rI,h]
def A2J{U k}:(rI U (k+1)).map (vi U.length)=(rI U k).map (vi U.length)++[vi U.length (iM U (k:Nat))]:=by simp[rI,CX]
section
variable(U:C2)(pw:D4)(cj:E6)
def dN(h:BW U pw cj):DZ prog 107 [AU U pw cj] (D7 U.length (rI U (nG U))):=by
 have Q4:=h.1.1
 have hNb:=yY h
 have Rl:=Z8 U pw cj h
 rw[<-oP h]at Rl
 refine DA AY func107 rfl AP ntmps107 results107 ((UZ _ _)) (λnx cX=>?_)
 refine Q9 ?_;refine Q9 ?_;refine A6 λN1 CW=>A0Q (Rl) ?_;refine AA<|AM (α:=Nat×HP×AV) (λx=>sl 18 [(0,AU U pw cj),(3,x.2.2),(6,.i .i64 (nG U)),(7,.i .i64 x.1)]) (λx=>x.2.1) (λx m=>(x.1<=nG U/\nx<=m)/\LC x.2.1 nx m x.2.2 ((rI U x.1).map (vi U.length))) (λx=>nG U-x.1) ((0,DD,.nl)) ?_ ?_ (λ_ _ h=>h) ?_
 ·exact⟨⟨B5,AI⟩,.nil⟩
 ·exact I2
 rintro⟨k,G,L⟩ m ⟨⟨hk,hm⟩,hL⟩
 refine BH ?_;dsimp only at hk hm hL ⊢
 have pK:=hL.one
 have YC:=hL.len
 have Xz:=hL.bd
 rw[A4,WC]at YC
 refine Q9 ?_;refine A6 λN2 DN=>AK ?_ ?_<;>intro h1
 ·apply AF;apply DN;refine A6 λN3 DO=>AA<|Q9 ?_;refine oC ?_;refine AC.pure (.of (jF U pw cj h k A0 A0)) ?_;try simp-dsimp-implicitDefEqProofs(disch:=(first|omega|((repeat refine LC.CJ A0 ?_);assumption))) only[go_sem,AU,vi,pK,YC,F2 (a:=nx) (b:=m) (L:=L) (cs:=(rI U k).map (vi U.length)),A4,WC]
  apply DO;refine BX (λG3 J6=>?_);dsimp only at J6;refine oC ?_;refine BB (k+1,G3,.h (m+1+3+4) 0 (k+1)) ?_ ?_ ?_
  ·exact I2
  ·have fN:LC G3 nx (m+1+3+6) (.h (m+1+3+4) 0 (k+1)) ((rI U (k+1)).map (vi U.length)):=LC.mk (by rw[<-J6,A2J];simp(disch:=omega)only[AB,AD];rfl) (by rw[A4,WC]) A0 A0;first|exact⟨⟨AI,AI⟩,fN.wide (A1 _) AI⟩|exact⟨AI,fN.wide (A1 _) AI⟩
  exact AI
 apply AO;apply CW;refine Q9 ?_;refine BQ ?_;obtain rfl:k=nG U:=A0
 have:=hL.vwQ
 rwa [A4]at this
end
section
variable{U:C2}{pw:D4}{cj:E6}(h:BW U pw cj)(hc:HN (pc U pw cj) 0){S:V->Prop}(hS:NO (T (pc U pw cj) 0) (M (pc U pw cj) 0) S)
include h hc hS
end
section
variable(U:C2)(pw:D4)(cj:E6)
end
end
section
section
variable(U:C2)(pw:D4)(cj:E6)
end
def AKF{p:Nat->Prop}{k:Nat}(h:∀j,j<k->p j)(hk:p k):∀j,j<k+1->p j:=λj hj=>by
 by_cases e:j=k
 ·subst e;exact hk
 exact h j A0
def Wd:C2->Int
 |[]=>0
 |x::W=>if x≠0 then x else Wd W
def Gj{W k}(h:∀j,j<k->W.getD j 0=0):Wd W=Wd (W.drop k):=by
 induction k generalizing W with
 |zero=>rfl
 | succ k ih=>
   cases W with
   |nil=>rfl
   | cons x W=>
     have h0:=h 0 A0;simp at h0;rw[Wd,if_neg (by simp[h0]),AR];exact ih λj hj=>by simpa using h (j+1) A0
def We(W)(hl:W.length<=1000):DZ prog 143 [ints W] (.i .i64 (Wd W)):=by
 refine BI AY func143 rfl AP ntmps143 results143 (.i _ _) (λnx cX=>?_)
 refine EU ?_;refine EU ?_;refine A6 λN1 CW=>EU ?_;refine AA<|AM (α:=Nat) (λx=>sl 18 [(3,.i .i64 0),(6,ints W),(7,.i .i64 W.length),(8,.i .i64 x)]) (λ_=>DD) (λx m=>x<=W.length/\∀j,j<x->W.getD j 0=0) (λx=>W.length-x) (0) ?_ ?_ (λ_ _ h=>h) ?_
 ·exact⟨A0,λj h=>A0⟩
 ·exact E2
 rintro k m ⟨hk,ha⟩
 refine BH ?_;refine EU ?_;refine A6 λN2 DN=>AK ?_ ?_<;>intro h1
 ·apply AF;apply DN;refine A6 λN3 DO=>AA<|EU ?_;refine EU ?_;refine AK ?_ ?_<;>intro h2
  ·refine EU ?_;refine BQ ?_;have P5:k<W.length:=A0
   have e1:W.getD k 0=W[k]:=by simp[P5]
   rw[Gj ha,DL P5,Wd,<-e1,if_pos (by simpa using h2)]
  apply AF;apply DO;refine LG ?_;refine BB (k+1) ?_ ?_ ?_
  ·exact E2
  ·exact⟨AI,AKF ha (by simpa using h2)⟩
  exact AI
 apply AO;apply CW;refine EU ?_;refine BQ ?_;rw[Gj ha,List.drop_of_length_le A0];rfl
section
variable(U:C2)(pw:D4)(cj:E6)
end
end
section
def mZ{i o n}:(∀z∈ [AV.h i o n],one z=true)=True:=FE rfl
def iB(n j:Nat):C2:=vec n (λk=>if k=j then 1 else 0)
def XT(n j):(iB n j).length=n:=by simp[iB,vec]
def uZ(n j:Nat)(hn:n<=1048576)(hj:j<n)(nx:Nat)(H:HP):AC prog 116 nx H [.i .i64 n,.i .i64 j] (λDI H' r=>Vh nx DI H H' r n (λk=>if k=j then 1 else 0)):=by
 refine CF AY func116 rfl AP ntmps116 results116 (λGM cX=>?_)
 refine CT ?_;refine CT ?_;refine CT ?_;refine CT ?_;refine BQ ?_;refine⟨_,?_,nx+1+1,rfl,A0,A0,rfl⟩
 rw[IL,cE hj,show D0 (λ_=>(0:Int)) j 1=λk=>if k=j then 1 else 0 from rfl]
 intro i c hi
 have HX:H i=some c->i<nx:=λh=>by apply AN;intro hn;rw[GM i A0]at h;cases h
 simp only[CJ]at hi ⊢
 split at hi
 ·rename_i e;subst e;cases hi;repeat (first|rw[if_pos rfl]|rw[if_neg A0])
 have:=HX hi;repeat rw[if_neg A0]
 exact hi
def V9(n j:Nat)(hn:n<=1048576)(hj:j<n):cC prog 116 [.i .i64 n,.i .i64 j] (ints (iB n j)):=Vh.aco (λnx=>uZ n j hn hj nx DD)
def ZE(n:Nat):D4:=List.replicate n (List.replicate n 0)
def Wf(n i:Nat):D4:=(List.range (n-(i+1))).map λj=>iB n (i+1+j)
def U9(n:Nat):E6:=(List.range n).map (Wf n)
def A2K{n k}(h:k<n):(ZE n).take (k+1)=(ZE n).take k++[List.replicate n 0]:=by
 rw[B7 (by simpa[ZE]using h)];simp[ZE]
def A2L{n i j}(h:i+1+j<n):((Wf n i).map ints).take (j+1)=((Wf n i).map ints).take j++[ints (iB n (i+1+j))]:=by
 rw[B7 (by simp[Wf];omega)];simp[Wf]
def A2M{n k}(h:k<n):(U9 n).take (k+1)=(U9 n).take k++[Wf n k]:=by
 rw[B7 (by simpa[U9]using h)];simp[U9]
def kC(n i):(Wf n i).length=n-(i+1):=by simp[Wf]
def rJ(n):(U9 n).length=n:=by simp[U9]
def rK(n):(ZE n).length=n:=by simp[ZE]
def AP2(n):List.replicate n (AV.i .i64 0)=(List.replicate n (0:Int)).map (.i .i64):=B5
def A9V(a)(ha:a.length<=1099511627776):cC prog 87 [ints a] (ints a):=by
 have:=Vh.aco (λnx=>IM a ha nx DD);rwa [<-sJ]at this
set_option maxHeartbeats 4000000 in theorem RZ (U)(hn:U.length<=1000):∀nx,AC prog 174 nx DD [ints U] (λDI H' r=>∃r0 P B cp cb,r= .g [r0,P,B]/\gG nx DI H' r0 P B U (ZE U.length) (U9 U.length) cp cb):=by
 intro nx
 refine ED AY func174 rfl AP ntmps174 results174 (λcX=>?_)
 refine tD ?_;refine tD ?_;refine sQ λN hN=>?_;(try simp-dsimp-implicitDefEqProofs(disch:=omega)only[go_sem,cne,ints]);refine AC.own (A9V U A0) (.cons (.refl _) .nil) ?_
 intro m0 H0 r0 Gk hm0 Oa OM
 obtain⟨u1,u2,u3⟩:=OM.1.slice
 (try simp-dsimp-implicitDefEqProofs(disch:=omega)only[go_sem,u1,u2,u3])
 apply hN;refine A6 λN1 CW=>tD ?_;refine AA<|BX (λG0 JM=>?_);dsimp only at JM
 have eV:G0 (nx+7)=some [r0,.nl,.nl]:=by rw[<-JM];simp(disch:=omega)only[AD]
 have cH:G0 nx=some [.nl,.nl,.nl]:=by rw[<-JM,AB _ _ A0,Oa _ A0];simp(disch:=omega)only[AD]
 have hp0:LV (nx+9) m0 G0 r0 .nl .nl U [] []:=⟨Gk,[],[],⟨OM.1.BV (λi hi=>by have:=OM.2.2 i hi;rw[<-JM,AB _ _ A0]),.nl,.nl⟩,by simpa using OM.2.1,λi hi=>by have:=OM.2.2 i (by simpa using hi);omega⟩
 refine AM (α:=Nat×HP×AV×AV×List AV×List AV) (λx=>sl 46 [(2,.q nx 0),(3,.i .i64 U.length),(4,.q (nx+7) 0),(5,.i .i64 x.1)]) (λx=>x.2.1) (λx m=>(x.1<=U.length/\m0<=m)/\(x.2.1 (nx+7)=some [r0,x.2.2.1,x.2.2.2.1]/\x.2.1 nx=some [.nl,.nl,.nl])/\LV (nx+9) m x.2.1 r0 x.2.2.1 x.2.2.2.1 U ((ZE U.length).take x.1) ((U9 U.length).take x.1)/\(LC x.2.1 (nx+9) m x.2.2.1 x.2.2.2.2.1/\x.2.2.2.2.1.length=x.1)/\(LC x.2.1 (nx+9) m x.2.2.2.1 x.2.2.2.2.2/\x.2.2.2.2.2.length=x.1)/\∀y∈x.2.2.2.2.2,xJ y=true) (λx=>U.length-x.1) ((0,G0,.nl,.nl,[],[])) ?_ ?_ (λ_ _ h=>h) ?_
 ·exact⟨⟨B5,AI⟩,⟨eV,cH⟩,by simpa using hp0.BV (λ_ _ _=>rfl) AI,⟨.nil,rfl⟩,⟨.nil,rfl⟩,B5⟩
 ·exact E2
 rintro⟨k,G,P,B,cp,cb⟩ m ⟨⟨hk,hm⟩,⟨hq,hx⟩,n7,⟨Ro,rU⟩,⟨qL,uY⟩,Gi⟩
 refine BH ?_;dsimp only at hk hm hq hx n7 Ro rU qL uY Gi ⊢
 have hPb:=Ro.bd
 have hPo:=Ro.one
 have aN:=Ro.len
 have hBb:=qL.bd
 have Wg:=qL.one
 have Iq:=qL.len
 refine A6 λN2 DN=>tD ?_;refine AK ?_ ?_<;>intro h1
 ·have eA:k<U.length:=A0;apply AF;apply DN;refine A6 λN3 DO=>AA<|A6 λN hN=>?_;refine K5 AY AP [true,false,true,false,false,false,true,false] (.br 1 (.br 3 (.br 4 (.br 5 (.br 7 .nil .nil) .nil) .nil) .nil) (.br 3 (.br 1 (.br 4 (.br 5 (.br 7 .nil .nil) .nil) .nil) (.br 4 (.br 1 (.br 5 (.br 7 .nil .nil) .nil) .nil) .nil)) .nil)) AP ?_
  simp-dsimp-implicitDefEqProofs(disch:=(first|omega|((repeat refine LC.CJ A0 ?_);assumption))) only[go_sem,ints,cne,↓Om,↓On,↓Oo,and_self,mZ,hq,hPo,aN,rU,DW,F2 (a:=nx+9) (b:=m) (L:=P) (cs:=cp)];apply hN;refine BX (λG1 K6=>?_);dsimp only at K6;have AP3:G1 (nx+7)=some [r0,.h (m+3+5) 0 (k+1),B]:=by rw[<-K6];simp(disch:=omega)only[AD]
  have AKG:G1 (m+3+5)=some (cp++[.h (m+3+3) 0 U.length]):=by rw[<-K6];simp(disch:=omega)only[AD,AB]
  have Gl:G1 (m+3+3)=some ((List.replicate U.length (0:Int)).map (.i .i64)):=by rw[<-K6,<-AP2];simp(disch:=omega)only[AD,AB,DW]
  have Mc:G1 nx=some [.nl,.nl,.nl]:=by rw[<-K6,<-hx];simp(disch:=omega)only[AB,DW]
  have A2N:∀i,nx+9<=i->i<m->bk P≠i+1->G1 i=G i:=λi i1 i2 i3=>by rw[<-K6];simp(disch:=omega)only[AB,DW]
  have AKH:LV (nx+9) (m+3+8) G1 r0 (.h (m+3+5) 0 (k+1)) B U ((ZE U.length).take (k+1)) ((U9 U.length).take k):=by
   rw[A2K eA,<-rU];rw[<-rU]at n7;exact n7.AJD Ro (Ow.ints Gl B5) B5 (λi hi=>by simp at hi;omega) AKG A0 B5 A0 A2N
  have hPB:=n7.ne Ro qL;have AKI:LC G1 (nx+9) m B cb:=qL.RQ (λi hi=>A2N i A0 A0 A0);obtain⟨b1,UK⟩:∃q,m+3+8=q:=⟨_,rfl⟩;rw[UK]at AKH;refine tD ?_;refine A6 λN4 FD=>tD ?_;refine AA<|BX (λG2 Dj=>?_);dsimp only at Dj
  have AP4:∀i,i<b1->G2 i=G1 i:=λi i1=>by rw[<-Dj];simp(disch:=omega)only[AB]
  have AP5:G2 b1=some []:=by rw[<-Dj,UK];simp(disch:=omega)only[AD]
  refine AM (α:=Nat×HP×AV×List AV) (λx=>sl 46 [(2,.q nx 0),(3,.i .i64 U.length),(4,.q (nx+7) 0),(5,.i .i64 k),(6,x.2.2.1),(7,.i .i64 ((k+1+x.1:Nat):Int))]) (λx=>x.2.1) (λx m=>(k+1+x.1<=U.length/\b1<=m)/\(∀i,i<b1->x.2.1 i=G1 i)/\xI b1 m x.2.1 x.2.2.1 x.2.2.2 (((Wf U.length k).map ints).take x.1)) (λx=>U.length-x.1) ((0,G2,.h b1 0 0,[])) ?_ ?_ (λ_ _ h=>h) ?_
  ·exact⟨⟨AI,AI⟩,AP4,by simpa using xI.empty AP5 (A1 _) AI⟩
  ·exact E2
  rintro⟨j,H2,L,cl⟩ m2 ⟨⟨hj,Q8⟩,PF,hL⟩;refine BH ?_;dsimp only at hj Q8 PF hL ⊢;have WW:=hL.1;have Xz:=WW.bd;have pK:=WW.one;have YC:=WW.len;obtain⟨hLc,hLk⟩:=WW.cells;have KW:=hL.len;rw[B1,A4,kC]at KW;refine A6 λN5 ID=>tD ?_;refine AK ?_ ?_<;>intro h2
  ·have dA:k+1+j<U.length:=A0;have oY:cl.length=j:=A0;apply AF;apply ID;refine A6 λN6 OR=>?_;apply AA;apply rQ;simp-dsimp-implicitDefEqProofs(disch:=omega)only[go_sem,cne,ints];refine AC.own (V9 U.length (k+1+j) A0 A0) (.cons (.refl _) (.cons (.refl _) .nil)) ?_
   intro m3 H3 r3 A2O U5 Ds IB;obtain⟨u4,u5,u6⟩:=IB.1.slice;have YD:LC H3 b1 m2 L cl:=WW.BV (λi i1 i2=>Ds i A0);have u7:=FE u5;try simp-dsimp-implicitDefEqProofs(disch:=(first|omega|((repeat refine LC.CJ A0 ?_);assumption))) only[go_sem,u4,u5,u6,u7,YC,oY,F2 (a:=b1) (b:=m2) (L:=L) (cs:=cl)]
   apply OR;refine BX (λG3 J6=>?_);dsimp only at J6;apply rQ;simp-dsimp-implicitDefEqProofs(disch:=omega)only[go_sem,cne,ints];refine BB (j+1,G3,.h (m2+3+5) 0 (j+1),cl++[r3]) ?_ ?_ ?_
   ·simp(disch:=omega) [EJ,EN,sl,DV,ints,rows,B6,ints,DV,cne]<;>omega
   ·refine⟨⟨AI,AI⟩,λi hi=>?_,?_⟩
    ·dsimp only;rw[<-J6];simp(disch:=omega)only[AB,DW];rw[Ds i A0];exact PF i hi
    dsimp only;rw[A2L dA];have hpu:=hL.push (H':=G3) (id:=m2+3+5) (m':=m3) (IB.1.BV (λi hi=>by have:=IB.2.2 i hi;rw[<-J6];simp(disch:=omega)only[AB,DW])) IB.2.1 (λi hi=>by have:=IB.2.2 i hi;omega) (by rw[<-J6];simp(disch:=omega)only[AD]) A0 (λhi=>by have:=IB.2.2 _ hi;omega) A0 (λi i1 i2 i3=>by rw[<-J6];simp(disch:=omega)only[AB,DW];exact Ds i A0);rw[oY]at hpu;exact hpu.BV (λ_ _ _=>rfl) AI
   exact AI
  have hje:j=U.length-(k+1):=A0;have XA:H2 (nx+7)=some [r0,.h (m+3+5) 0 (k+1),B]:=(PF _ A0).trans AP3;have ARF:LC H2 (nx+9) m B cb:=AKI.BV (λi i1 i2=>PF i A0);rw[AJ (by rw[A4,kC];omega)]at hL;have u7:=FE pK;apply AO;apply FD;apply rQ;simp-dsimp-implicitDefEqProofs(disch:=(first|omega|((repeat refine LC.CJ A0 ?_);assumption))) only[go_sem,ints,cne,u7,hLc,hLk,pK,XA,Wg,Iq,uY,DW,F2 (a:=nx+9) (b:=m) (L:=B) (cs:=cb)];apply DO;refine BX (λG5 KK=>?_);dsimp only at KK;have AEH:G5 (nx+7)=some [r0,.h (m+3+5) 0 (k+1),.h (m2+3+4) 0 (k+1)]:=by rw[<-KK];simp(disch:=omega)only[AD]
  have A2P:G5 (m2+3+4)=some (cb++[L]):=by rw[<-KK];simp(disch:=omega)only[AD,AB]
  have Gm:∀i,i<m2->i≠nx+7->bk B≠i+1->G5 i=H2 i:=λi i1 i2 i3=>by rw[<-KK];simp(disch:=omega)only[AB,DW]
  obtain⟨_,ZU,o1,o2,o3⟩:=hL;have A2Q:LV (nx+9) (m2+12) G5 r0 (.h (m+3+5) 0 (k+1)) (.h (m2+3+4) 0 (k+1)) U ((ZE U.length).take (k+1)) ((U9 U.length).take (k+1)):=by
   rw[A2M eA];have:=AKH.A99 (m':=m2+12) (x:=Wf U.length k) (r1:=L) (is:=ZU) (H':=G5) (id:=m2+3+4) AKI (by rw[SK];exact o1.BV (λi hi=>by have:=o3 i hi;exact Gm i A0 A0 A0)) o2 (λi hi=>by have:=o3 i hi;omega) A2P A0 (λhi=>by have:=o3 _ hi;omega) A0 (λi i1 i2 i3=>by rw[Gm i A0 A0 A0];exact PF i A0);rwa [uY]at this
  apply rQ;simp-dsimp-implicitDefEqProofs(disch:=omega)only[go_sem,cne,ints];refine BB (k+1,G5,.h (m+3+5) 0 (k+1),.h (m2+3+4) 0 (k+1),cp++[.h (m+3+3) 0 U.length],cb++[L]) ?_ ?_ ?_
  ·simp(disch:=omega) [EJ,EN,sl,DV,ints,rows,B6,ints,DV,cne]<;>omega
  ·refine⟨⟨AI,AI⟩,⟨AEH,?_⟩,A2Q.BV (λ_ _ _=>rfl) AI,⟨.mk ?_ (by simp[rU]) A0 AI,by simp[rU]⟩,⟨.mk A2P (by simp[uY]) A0 AI,by simp[uY]⟩,Ph Gi WW.xJ⟩
   ·dsimp only;rw[Gm _ A0 A0 A0,PF _ A0];exact Mc
   dsimp only;rw[Gm _ A0 A0 A0,PF _ A0];exact AKG
  exact AI
 have v7:k=U.length:=A0
 apply AO;apply CW;refine sQ λN hN=>?_;simp-dsimp-implicitDefEqProofs(disch:=omega)only[go_sem,FR,cne,ints,hq,hx,u2,hPo,Wg];apply hN;refine BQ ?_;rw[AJ (by rw[rK];omega),AJ (by rw[rJ];omega)]at n7
 exact⟨r0,P,B,cp,cb,rfl,gG.wide (gG.BV ⟨n7,Ro,qL,Gi⟩ (λi i1 i2=>by exact D8) (A1 _)) A0 A0⟩
def kD(U)(hn:U.length<=1000):cC prog 174 [ints U] (CI U (ZE U.length) (U9 U.length)):=λnx=>(RZ U hn nx).mono (by
 rintro DI H' r ⟨r0,P,B,cp,cb,rfl,h⟩;exact h.1.own)
end
section
def Fz.tr{n H H' a t}(h:Fz H (TN n H) a t)(hk:∀i,n<=i->H' i=H i):Fz H' (TN n H') a t:=by
 have key:∀id (cs:List AV),H id=some cs->TN n H id=none->H' id=some cs/\TN n H' id=none:=λid cs h1 h2=>by
   have GF:n<=id:=by
    apply AN;intro hn;rw[EL A0,h1]at h2;cases h2
   exact⟨(hk id GF).trans h1,bN GF⟩
 induction h with
 |j a=>exact .j a
 |refl a=>exact .refl a
 |nl=>exact .nl
 |h id o m cs ts h1 h0 h2 h3 h4 ih=>exact .h id o m cs ts (key id cs h1 h0).1 (key id cs h1 h0).2 h2 h3 ih
 |hs s id o m cs ts h1 h0 h2 h3 h4 ih=>exact .hs s id o m cs ts (key id cs h1 h0).1 (key id cs h1 h0).2 h2 h3 ih
 |q id o cs ts h1 h0 h3 h4 ih=>exact .q id o cs ts (key id cs h1 h0).1 (key id cs h1 h0).2 h3 ih
 |g cs ts h3 h4 ih=>exact .g cs ts h3 ih
 |t cs ts h3 h4 ih=>exact .t cs ts h3 ih
 |v m cs ts h3 h4 ih=>exact .v m cs ts h3 ih
 |f m cs ts h3 h4 ih=>exact .f m cs ts h3 ih
def zK(nx:Nat)(H:HP)(Q:AV->Prop):Nat->HP->AV->Prop:=λ_ H' r=>Q r/\∀i,i<nx->H' i=H i
def bP{P f xs Q nx}(h:AC P f nx DD xs (λDI H' r=>∃r2,Fz H' (TN nx H') r r2/\Q r2))(H):AC P f nx H xs (zK nx H Q):=
 (AC.frame (H:=H) h).frz λDI H' r ⟨H0,⟨r2,g1,g2⟩,IA,LH⟩=>⟨TN nx H',r2,eL.TN,g1.tr LH,g2,λi hi=>(EL hi).trans (IA i hi)⟩
def Fz.t2{H H' a b z}(h:Fz H H' a b):Fz H H' (.t [a,z]) (.t [b,z]):= .t _ _ rfl λk x y hx hy=>by
 match k,hx,hy with
 |0,hx,hy=>cases hx;cases hy;exact h
 |1,hx,hy=>cases hx;cases hy;exact .refl _
def LC.fzI{n H a b L xs}(h:LC H a b L (xs.map (.i .i64)))(hn:n<=a):Fz H (TN n H) L (ints xs):=by
 have:=h.fz hn (ts:=xs.map (.i .i64)) rfl λk x y g1 g2=>by rw[g1]at g2;cases g2;exact .refl _
 simpa[ints]using this
def LC.fzR{n H a b L xs}(h:LC H a b L (xs.map ints))(hn:n<=a):Fz H (TN n H) L (rows xs):=by
 rw[SK];exact h.fz hn rfl λk x y g1 g2=>by rw[g1]at g2;cases g2;exact .refl _
def kE{α:Type}{p:α->Prop}{X:List α}{x:α}(h:∀z∈X,p z)(hx:p x):∀z∈X++[x],p z:=λz hz=>by
 rcases AG.1 hz with h1|h1
 ·exact h z h1
 rw[BY.1 h1];exact hx
def rL{α:Type}{p:α->Prop}{X:List α}{k:Nat}{x:α}(h:∀z∈X,p z)(hx:p x):∀z∈X.set k x,p z:=λz hz=>by
 rcases JG hz with h1|h1
 ·exact h z h1
 rw[h1];exact hx
def Fz.AKJ{n a id H f}(h:H id=some (JP n f))(ha:a<=id):Fz H (TN a H) (.h id 0 n) (ints (vec n f)):=by
 have:=LC.fzI (H:=H) (L:= .h id 0 n) (n:=a) (a:=id) (b:=id+1) (xs:=vec n f) (.inr ⟨id,by rw[A4,HB],by rw[VZ];exact h,A1 _,Nat.lt_succ_self _⟩) ha;exact this
def AKK(n:Int)(r:AV):Prop:=∃fs b,r= .t [ints fs,.b b]/\(2:Int)^fs.length<=n/\∀x∈fs,2<=x/\x<=7
def A2R{k a q d n}(h:(2:Int)^k*a<=n)(hd:2<=d)(hq:0<=q)(e:d*q<=a):(2:Int)^(k+1)*q<=n:=by
 have h1:(0:Int)<=2^k:=Int.pow_nonneg A0;have h2:2*q<=d*q:=D5 hd hq;have h3:(2:Int)^k*(2*q)<=2^k*a:=CN A0 h1;rw[KL,HY];omega
def A71{a d:Int}(ha:1<=a)(hd:2<=d)(hm:a.tmod d=0):1<=a.tdiv d/\a.tdiv d<a/\d*a.tdiv d<=a:=by
 have h:=Int.tmod_add_tdiv_mul a d;rw[hm]at h;have h2:a.tdiv d*d=a:=A0;have h1:1<=a.tdiv d:=by
  apply AN;intro hn;have:a.tdiv d*d<=0:=Int.mul_nonpos_of_nonpos_of_nonneg A0 A0;omega
 have h3:a.tdiv d*2<=a.tdiv d*d:=CN hd A0;refine⟨h1,A0,by rw[F8];omega⟩
def pow_one{k a n}(h:(2:Int)^k*a<=n)(ha:1<=a):(2:Int)^k<=n:=by
 have h1:(0:Int)<=2^k:=Int.pow_nonneg A0;have h2:(2:Int)^k*1<=2^k*a:=CN ha h1;omega
def kF{k n}(h:(2:Int)^k<=n)(hn:n<=729):k<=9/\(n<=64->k<=6):=by
 have key:∀j,(2:Int)^j*(2:Int)^(k-j)=2^k\/k<j:=λj=>by
  by_cases hj:j<=k
  · left;rw[<-Int.pow_add];congr 1;omega
  right;omega
 have pos:∀j,(1:Int)<=2^j:=λj=>by
  induction j with
  |zero=>decide
  |succ j ih=>rw[KL];omega
 refine⟨?_,λh64=>?_⟩
 ·rcases key 10 with e|e
  · have:=pos (k-10);rw[show(2:Int)^10=1024 from rfl]at e;omega
  omega
 rcases key 7 with e|e
 ·have:=pos (k-7);rw[show(2:Int)^7=128 from rfl]at e;omega
 omega
set_option maxHeartbeats 2000000 in theorem kG (n)(h0:1<=n)(h1:n<=729):∀nx,AC prog 258 nx DD [.i .i64 n] (λDI H' r=>∃r2,Fz H' (TN nx H') r r2/\AKK n r2):=by
 intro nx
 refine ED AY func258 rfl AP ntmps258 results258 (λcX=>?_)
 refine CT ?_;refine CT ?_;refine A6 λN1 CW=>CT ?_;refine AA<|AM (α:=Nat×HP×AV×C2×Int) (λx=>sl 29 [(0,.i .i64 x.2.2.2.2),(4,x.2.2.1),(5,.i .i64 ((x.1:Int)+2))]) (λx=>x.2.1) (λx m=>(x.1<=6/\nx+3<=m)/\LC x.2.1 nx m x.2.2.1 (x.2.2.2.1.map (.i .i64))/\(1<=x.2.2.2.2/\x.2.2.2.2<=729/\(2:Int)^x.2.2.2.1.length*x.2.2.2.2<=n)/\x.2.2.2.1.length<=1000/\∀z∈x.2.2.2.1,2<=z/\z<=7) (λx=>6-x.1) ((0,CJ DD (nx+2) (some []),.h (nx+2) 0 0,[],n)) ?_ ?_ (λ_ _ h=>h) ?_
 ·exact⟨⟨B5,AI⟩,LC.mk (AD _ _ _) rfl A0 AI,by simp;omega,B5,B5⟩
 ·exact E2
 rintro⟨k,G,L,fs,a⟩ m ⟨⟨hk,hm⟩,hL,⟨ha,ha7,hp⟩,ZR,ZJ⟩
 refine BH ?_;dsimp only at hk hm hL ha ha7 hp ZR ZJ ⊢
 refine A6 λN2 DN=>CT ?_;refine AK ?_ ?_<;>intro h1
 ·apply AF;apply DN;refine A6 λN3 DO=>AA<|AA<|AM (α:=HP×AV×C2×Int) (λx=>sl 29 [(0,.i .i64 x.2.2.2),(4,x.2.1),(5,.i .i64 ((k:Int)+2))]) (λx=>x.1) (λx m=>nx+3<=m/\LC x.1 nx m x.2.1 (x.2.2.1.map (.i .i64))/\(1<=x.2.2.2/\x.2.2.2<=729/\(2:Int)^x.2.2.1.length*x.2.2.2<=n)/\x.2.2.1.length<=1000/\∀z∈x.2.2.1,2<=z/\z<=7) (λx=>x.2.2.2.toNat) ((G,L,fs,a)) ?_ ?_ (λ_ _ h=>h) ?_
  ·exact⟨AI,hL.wide A0 AI,⟨ha,ha7,hp⟩,ZR,ZJ⟩
  ·exact E2
  rintro⟨G,L,fs,a⟩ m ⟨hm,hL,⟨ha,ha7,hp⟩,ZR,ZJ⟩;refine BH ?_;dsimp only at hm hL ha ha7 hp ZR ZJ ⊢;have pK:=hL.one;have YC:=hL.len;refine A6 λN4 FD=>sQ λN hN=>?_;refine BH ?_;refine sF (SI ((k:Int)+2)) ?_
  refine J5.mk' (λh2=>?_) (λh2=>?_)
  ·try simp only[cn]at h2
   refine BH ?_
   apply hN;refine AK ?_ ?_<;>intro h3
   ·have hd:=A71 (d:=(k:Int)+2) ha A0 h3;apply AF;apply FD;refine AA<|sQ λN hN=>?_;simp-dsimp-implicitDefEqProofs(disch:=(first|omega|((repeat refine LC.CJ A0 ?_);assumption))) only[go_sem,pK,YC,F2 (a:=nx) (b:=m) (L:=L) (cs:=fs.map (.i .i64))]
    apply hN;refine BX (λG3 J6=>?_);dsimp only at J6;refine K4 ?_;refine BB (G3,.h (m+8+3) 0 (fs.length+1),fs++[(k:Int)+2],a.tdiv ((k:Int)+2)) ?_ ?_ ?_
    ·exact E2
    ·have fN:LC G3 nx (m+8+5+4) (.h (m+8+3) 0 (fs.length+1)) ((fs++[(k:Int)+2]).map (.i .i64)):=LC.mk (by rw[<-J6,AZ];simp(disch:=omega)only[AB,AD];rfl) B5 A0 A0;have hps:=A2R hp (show 2<=(k:Int)+2 by omega) A0 hd.2.2;have A72:∀z∈fs++[(k:Int)+2],2<=z/\z<=7:=kE ZJ A0;have WV:(fs++[(k:Int)+2]).length<=1000:=by rw[AH,E3];have:=(kF (pow_one hp ha) A0).1;omega
     have VL:(2:Int)^(fs++[(k:Int)+2]).length*a.tdiv ((k:Int)+2)<=n:=by rw[AH];exact hps
     first|exact⟨AI,fN,⟨AI,AI,VL⟩,WV,A72⟩|exact⟨fN,⟨AI,AI,VL⟩,WV,A72⟩
    exact AI
   apply AO;apply DO;refine K4 ?_;refine BB (k+1,G,L,fs,a) ?_ ?_ ?_
   ·exact E2
   ·exact⟨⟨AI,AI⟩,hL.wide A0 AI,⟨ha,ha7,hp⟩,ZR,ZJ⟩
   exact AI
  try simp only[cn]at h2
  refine BH ?_
  apply hN;refine DJ rfl ?_;apply AO;apply DO;refine K4 ?_;refine BB (k+1,G,L,fs,a) ?_ ?_ ?_
  ·exact E2
  ·exact⟨⟨AI,AI⟩,hL.wide A0 AI,⟨ha,ha7,hp⟩,ZR,ZJ⟩
  exact AI
 apply AO;apply CW;refine CT ?_;refine BQ ?_;exact⟨_,Fz.t2 (hL.fzI (A1 _)),fs,_,rfl,pow_one hp ha,ZJ⟩
def ON(n)(h0:1<=n)(h1:n<=729)(nx H):AC prog 258 nx H [.i .i64 n] (zK nx H (AKK n)):=bP (kG n h0 h1 nx) H
def Jc(b:Nat)(v:C2)(e:Nat):C2:=List.replicate b 0++v++List.replicate e 0
def cO(b v e):(Jc b v e).length=b+v.length+e:=by simp[Jc];omega
def A2S(b:Nat)(v:C2)(e:Nat):List.take (b+v.length) (List.take b (List.replicate b (AV.i .i64 0))++List.map (AV.i .i64) v)++List.replicate e (AV.i .i64 0)=(Jc b v e).map (.i .i64):=by
 rw[AJ B5,AJ B5];simp[Jc]
def pM(b:Nat)(v:C2)(e:Nat)(hb:b<=1000)(hv:v.length<=1000)(he:e<=1000):cC prog 227 [.i .i64 b,ints v,.i .i64 e] (ints (Jc b v e)):=by
 intro nx
 refine ED AY func227 rfl AP ntmps227 results227 (λcX=>?_)
 refine EU ?_;refine EU ?_;refine EU ?_;refine BQ ?_;rw[A2S]
 exact⟨_,Own.ints (AD _ _ _) (by rw[cO]) A0 A0⟩
def xq(U:C2)(k:Nat)(x:Int):Nat->Int
 |0=>x
 |d+1=>(xq U k x d).tdiv (U.getD (k+d) 0)
def dgF(U:C2)(k:Nat)(x:Int)(i:Nat):Int:=if i<k then 0 else (xq U k x (i-k)).tmod (U.getD i 0)
def dgV(U:C2)(k:Nat)(x:Int):C2:=vec U.length (dgF U k x)
def Bu(U k x):(dgV U k x).length=U.length:=by simp[dgV,vec]
def A9W{U k x}(ho:∀i,i<U.length->2<=U.getD i 0/\U.getD i 0<=1000)(hx:0<=x/\x<=1000000):∀d,k+d<=U.length->0<=xq U k x d/\xq U k x d<=1000000:=by
 intro d;induction d with
 |zero=>intro _;exact hx
 | succ d ih=>
   intro hd;have h1:=ih A0;have h2:=ho (k+d) A0;rw[xq,EC h1.1];refine⟨PX h1.1 A0,?_⟩;have:=Int.ediv_le_self (U.getD (k+d) 0) h1.1;omega
def n8(U:C2)(k:Nat)(x0:Int)(hn:U.length<=1000)(hk:k<=U.length)(ho:∀i,i<U.length->2<=U.getD i 0/\U.getD i 0<=1000)(hx:0<=x0/\x0<=1000000):cC prog 259 [ints U,.i .i64 k,.i .i64 x0] (ints (dgV U k x0)):=by
 intro nx
 refine ED AY func259 rfl AP ntmps259 results259 (λcX=>?_)
 refine EU ?_;refine EU ?_;refine A6 λN1 CW=>EU ?_;refine AA<|AM (α:=Nat×Int×(Nat->Int)) (λx=>sl 35 [(0,ints U),(2,.i .i64 x.2.1),(7,.h (nx+1+2) 0 U.length),(8,.i .i64 ((k+x.1:Nat):Int))]) (λx=>CJ DD (nx+1+2) (some (JP U.length x.2.2))) (λx m=>(k+x.1<=U.length/\nx+4<=m)/\x.2.1=xq U k x0 x.1/\∀i,i<U.length->x.2.2 i=if i<k+x.1 then dgF U k x0 i else 0) (λx=>U.length-(k+x.1)) ((0,x0,λ_=>0)) ?_ ?_ (by rw[IL];exact Le.refl _) ?_
 ·exact⟨⟨by simp;omega,AI⟩,rfl,λi hi=>by dsimp only;unfold dgF;split<;>(try (rw[if_pos A0]))<;>rfl⟩
 ·simp(disch:=omega) [EJ,EN,sl,DV,ints,rows,B6,DV,ints,CB]<;>omega
 rintro⟨d,y,f⟩ m ⟨⟨hd,hm⟩,hy,hf⟩
 refine BH ?_;dsimp only at hd hm hy hf ⊢
 have hyb:=A9W (k:=k) (λi hi=>ho i hi) hx d hd
 rw[<-hy]at hyb
 refine A6 λN2 DN=>EU ?_;refine AK ?_ ?_<;>intro h1
 ·have hz:¬U.getD (k+d) 0=0:=by have:=ho (k+d) A0;omega
  have hyw:IntKind.i64.wrap (y.tdiv (U.getD (k+d) 0))=y.tdiv (U.getD (k+d) 0):=by
   have h2:=A9W (k:=k) (λi hi=>ho i hi) hx (d+1) A0;rw[xq,<-hy]at h2;exact DV A0 A0
  apply AF;apply DN;refine A6 λN3 DO=>AA<|sQ λN hN=>?_;simp-dsimp-implicitDefEqProofs(disch:=omega)only[go_sem,CB,ints,hz];apply hN;apply rQ;simp-dsimp-implicitDefEqProofs(disch:=omega)only[go_sem,CB,ints,hz,hyw];apply DO;refine LG ?_;refine BB (d+1,y.tdiv (U.getD (k+d) 0),D0 f (k+d) (y.tmod (U.getD (k+d) 0))) ?_ ?_ ?_
  ·exact E2
  ·refine⟨⟨AI,AI⟩,by dsimp only;rw[xq,hy],λi hi=>?_⟩;dsimp only;by_cases e:i=k+d
   ·simp only[D0];rw[if_pos e,if_pos A0,e,dgF,if_neg A0,OD,<-hy]
   simp only[D0];rw[if_neg e,hf i hi];by_cases e2:i<k+d
   ·rw[if_pos e2,if_pos A0]
   rw[if_neg e2,if_neg A0]
  exact AI
 apply AO;apply CW;refine EU ?_;refine BQ ?_;rw[L5 (f:=f) (g:=dgF U k x0) (λi hi=>by rw[hf i hi,if_pos A0])]
 exact⟨_,Own.ints (by rw[AD,dgV,VZ]) (by rw[Bu]) A0 A0⟩
def Me{a b A B:Int}(h1:0<=a)(h2:a<=A)(h3:0<=b)(h4:b<=B):0<=a*b/\a*b<=A*B:=
 ⟨FH h1 h3,GB h2 h4 h3 A0⟩
def Gn{a m:Int}(h:0<=a)(hm:1<=m):0<=a.tmod m/\a.tmod m<m:=by
 rw[CZ h];exact⟨DK _ A0,DR _ A0⟩
def AKL(m:Int)(r:AV):Prop:=∃x,r= .i .i64 x/\0<=x/\x<m
def pN(b e n)(hn:1<=n/\n<=1000)(hb:0<=b/\b<=1000)(he:0<=e/\e<=1000):∀nx,AC prog 260 nx DD [.i .i64 b,.i .i64 e,.i .i64 n] (λDI H' r=>∃r2,Fz H' (TN nx H') r r2/\AKL n r2):=by
 have hz:¬n=0:=A0
 intro nx
 refine ED AY func260 rfl AP ntmps260 results260 (λcX=>?_)
 refine IZ hz ?_;refine IZ hz ?_;refine A6 λN1 CW=>AA<|AM (α:=Int×Int×Int) (λx=>sl 28 [(0,.i .i64 x.2.1),(1,.i .i64 x.2.2),(2,.i .i64 n),(7,.i .i64 x.1)]) (λ_=>DD) (λx m=>(0<=x.1/\x.1<n)/\(0<=x.2.1/\x.2.1<=1000)/\(0<=x.2.2/\x.2.2<=1000)) (λx=>x.2.2.toNat) (((1:Int).tmod n,b,e)) ?_ ?_ (λ_ _ h=>h) ?_
 ·exact⟨Gn A0 hn.1,hb,he⟩
 ·exact UM hz
 rintro⟨o,b,e⟩ m ⟨ho,hb,he⟩
 refine BH ?_;dsimp only at ho hb he ⊢
 refine A6 λN2 DN=>IZ hz ?_;refine AK ?_ ?_<;>intro h1
 ·have sX:=Me ho.1 (show o<=1000 by omega) hb.1 hb.2;have Q5:=Me hb.1 hb.2 hb.1 hb.2;have h3:=Gn sX.1 hn.1;have h4:=Gn Q5.1 hn.1;have dZ:0<=e.tdiv 2/\e.tdiv 2<e/\e.tdiv 2<=1000:=by rw[EC he.1];omega
  apply AF;apply DN;refine AA<|A6 λN3 DO=>IZ hz ?_;refine AK ?_ ?_<;>intro h2
  ·refine eJ hz ?_;apply DO;refine IZ hz ?_;refine eJ hz ?_;refine BB ((o*b).tmod n,(b*b).tmod n,e.tdiv 2) ?_ ?_ ?_
   ·exact UM hz
   ·exact⟨h3,AI,AI⟩
   exact AI
  apply AF;apply DO;refine IZ hz ?_;refine eJ hz ?_;refine BB (o,(b*b).tmod n,e.tdiv 2) ?_ ?_ ?_
  ·exact UM hz
  ·exact⟨ho,AI,AI⟩
  exact AI
 apply AO;apply CW;refine IZ hz ?_;refine BQ ?_;exact⟨_,.refl _,o,rfl,ho.1,ho.2⟩
def pP(b e n)(hn:1<=n/\n<=1000)(hb:0<=b/\b<=1000)(he:0<=e/\e<=1000)(nx H):AC prog 260 nx H [.i .i64 b,.i .i64 e,.i .i64 n] (zK nx H (AKL n)):=bP (pN b e n hn hb he nx) H
def smE(w:C2):Prop:=∀k,0<=w.getD k 0/\w.getD k 0<=10
def AKM(n:Nat)(r:AV):Prop:=∃w,r=ints w/\w.length=n/\smE w
def Rp{n f}(h:∀k,k<n->0<=f k/\f k<=10):smE (vec n f):=λk=>by
 by_cases hk:k<n
 ·have:=h k hk;simp[vec,hk];omega
 simp[vec,hk]
set_option maxHeartbeats 4000000 in
def pQ(p:Int)(hp:1<=p/\p<=10)(v:C2)(b:D4)(n:Nat)(hn:n<=1000)(hv:smE v)(hb:∀k,smE (b.getD k []))(hvl:v.length<=1000)(X5:b.length<=1000)(hbr:∀k,(b.getD k []).length<=1000):∀nx,AC prog 270 nx DD [.i .i64 p,ints v,rows b,.i .i64 n] (λDI H' r=>∃r2,Fz H' (TN nx H') r r2/\AKM n r2):=by
 have hz:¬p=0:=A0
 intro nx
 refine ED AY func270 rfl AP ntmps270 results270 (λcX=>?_)
 refine yE hz ?_;refine yE hz ?_;refine A6 λN1 CW=>yE hz ?_;refine AA<|AM (α:=Nat×(Nat->Int)) (λx=>sl 64 [(0,.i .i64 p),(1,ints v),(2,rows b),(9,.h (nx+1+1) 0 n),(10,.i .i64 x.1)]) (λx=>CJ DD (nx+1+1) (some (JP n x.2))) (λx m=>(x.1<=1000/\nx+4<=m)/\∀j,j<n->0<=x.2 j/\x.2 j<=10) (λx=>1001-x.1) ((0,λ_=>0)) ?_ ?_ (by rw[IL];exact Le.refl _) ?_
 ·exact⟨⟨B5,AI⟩,λj _=>B5⟩
 ·simp(disch:=omega) [EJ,EN,sl,DV,ints,rows,B6,DV,ints,rows,CB,EY,hz]<;>omega
 rintro⟨i,f⟩ m ⟨⟨hi,hm⟩,hf⟩
 refine BH ?_;dsimp only at hi hm hf ⊢
 refine A6 λN2 DN=>sQ λN hN=>?_;refine lO hz ?_;refine J5.mk' (λh1=>?_) (λh1=>?_)
 ·try simp only[cn]at h1
  refine lO hz ?_
  apply hN;refine AK ?_ ?_<;>intro h2
  ·apply AF;apply DN;refine A6 λN3 DO=>AA<|yE hz ?_;refine AA<|AM (α:=Nat×(Nat->Int)) (λx=>sl 64 [(0,.i .i64 p),(1,ints v),(2,rows b),(9,.h (nx+1+1) 0 n),(10,.i .i64 i),(11,.i .i64 x.1)]) (λx=>CJ DD (nx+1+1) (some (JP n x.2))) (λx m=>(x.1<=n/\nx+4<=m)/\∀j,j<n->0<=x.2 j/\x.2 j<=10) (λx=>n-x.1) ((0,f)) ?_ ?_ (λ_ _ h=>h) ?_
   ·exact⟨⟨B5,AI⟩,hf⟩
   ·simp(disch:=omega) [EJ,EN,sl,DV,ints,rows,B6,DV,ints,rows,CB,EY,hz]<;>omega
   rintro⟨j,f⟩ m ⟨⟨hj,hm⟩,hf⟩;refine BH ?_;dsimp only at hj hm hf ⊢;have ARG:=hbr i;refine A6 λN4 FD=>sQ λN hN=>?_;refine lO hz ?_;refine J5.mk' (λh3=>?_) (λh3=>?_)
   ·(try simp only[cn]at h3);refine lO hz ?_
    apply hN;refine AK ?_ ?_<;>intro h4
    ·have hfj:=hf j A0;have hvi:=hv i;have hbj:=hb i j;have SJ:=Me hvi.1 hvi.2 hbj.1 hbj.2;have ht:=Gn (a:=f j+v.getD i 0*(b.getD i []).getD j 0) (m:=p) A0 hp.1;apply AF;apply FD;refine A6 λN5 ID=>AA<|C9 AY AP 22 AP ?_
     (try simp-dsimp-implicitDefEqProofs(disch:=omega)only[go_sem,BD,AR,B4,BE,AT,AS,CB,EY,GJ,ES,ET,ints,rows,DV,hz]);apply ID;apply rQ;simp-dsimp-implicitDefEqProofs(disch:=omega)only[go_sem,CB,EY,ints,rows,hz];refine BB (j+1,D0 f j ((f j+v.getD i 0*(b.getD i []).getD j 0).tmod p)) ?_ ?_ ?_
     ·simp(disch:=omega) [EJ,EN,sl,DV,ints,rows,B6,DV,ints,rows,CB,EY,hz]<;>omega
     ·refine⟨⟨AI,AI⟩,λq hq=>?_⟩;dsimp only[D0];split
      ·omega
      exact hf q hq
     exact AI
    apply AO;apply DO;apply rQ;simp-dsimp-implicitDefEqProofs(disch:=omega)only[go_sem,CB,EY,ints,rows,hz];refine BB (i+1,f) ?_ ?_ ?_
    ·simp(disch:=omega) [EJ,EN,sl,DV,ints,rows,B6,DV,ints,rows,CB,EY,hz]<;>omega
    ·exact⟨⟨AI,AI⟩,hf⟩
    exact AI
   try simp only[cn]at h3
   refine lO hz ?_
   apply hN;refine DJ rfl ?_;apply AO;apply DO;apply rQ;simp-dsimp-implicitDefEqProofs(disch:=omega)only[go_sem,CB,EY,ints,rows,hz];refine BB (i+1,f) ?_ ?_ ?_
   ·simp(disch:=omega) [EJ,EN,sl,DV,ints,rows,B6,DV,ints,rows,CB,EY,hz]<;>omega
   ·exact⟨⟨AI,AI⟩,hf⟩
   exact AI
  apply AO;apply CW;refine yE hz ?_;refine BQ ?_;exact⟨_,Fz.AKJ (AD _ _ _) A0,_,rfl,HB,Rp hf⟩
 try simp only[cn]at h1
 refine lO hz ?_
 apply hN;refine DJ rfl ?_;apply AO;apply CW;refine yE hz ?_;refine BQ ?_;exact⟨_,Fz.AKJ (AD _ _ _) A0,_,rfl,HB,Rp hf⟩
def pR(p:Int)(hp:1<=p/\p<=10)(v:C2)(b:D4)(n:Nat)(hn:n<=1000)(hv:smE v)(hb:∀k,smE (b.getD k []))(hvl:v.length<=1000)(X5:b.length<=1000)(hbr:∀k,(b.getD k []).length<=1000)(nx:Nat)(H:HP):AC prog 270 nx H [.i .i64 p,ints v,rows b,.i .i64 n] (zK nx H (AKM n)):=bP (pQ p hp v b n hn hv hb hvl X5 hbr nx) H
structure Dt(n:Nat)(W:D4):Prop where
 l:W.length=n
 r:∀w∈W,w.length=n/\smE w
def Dt.at{n W}(h:Dt n W)(k):smE (W.getD k [])/\(W.getD k []).length<=n:=by
 by_cases hk:k<W.length
 ·rw[A5,A9 hk];have:=h.r _ (BK hk);exact⟨this.2,by simp;omega⟩
 rw[A5,B8 A0];exact⟨λk=>B5,B5⟩
def AKN(n:Nat)(r:AV):Prop:=∃W,r=rows W/\Dt n W
set_option maxHeartbeats 4000000 in
def kH(p)(hp:1<=p/\p<=10)(n)(hn:n<=10)(a b)(ha:Dt n a)(hb:Dt n b):∀nx,AC prog 261 nx DD [.i .i64 p,rows a,rows b,.i .i64 n] (λDI H' r=>∃r2,Fz H' (TN nx H') r r2/\AKN n r2):=by
 have hal:=ha.l
 have X5:=hb.l
 intro nx
 refine ED AY func261 rfl AP ntmps261 results261 (λcX=>?_)
 refine FY ?_;refine FY ?_;refine A6 λN1 CW=>FY ?_;refine AA<|AM (α:=Nat×HP×AV×D4) (λx=>sl 30 [(0,.i .i64 p),(1,rows a),(2,rows b),(3,.i .i64 n),(9,x.2.2.1),(10,.i .i64 x.1)]) (λx=>x.2.1) (λx m=>(x.1<=n/\nx+3<=m)/\LC x.2.1 nx m x.2.2.1 (x.2.2.2.map ints)/\x.2.2.2.length=x.1/\∀w∈x.2.2.2,w.length=n/\smE w) (λx=>n-x.1) ((0,CJ DD (nx+1) (some []),.h (nx+1) 0 0,[])) ?_ ?_ (λ_ _ h=>h) ?_
 ·exact⟨⟨B5,AI⟩,LC.mk (AD _ _ _) rfl A0 AI,rfl,B5⟩
 ·simp(disch:=omega) [EJ,EN,sl,DV,ints,rows,B6,DV,rows,EY]<;>omega
 rintro⟨i,G,L,W⟩ m ⟨⟨hi,hm⟩,hL,hWl,hW⟩
 refine BH ?_;dsimp only at hi hm hL hWl hW ⊢
 have pK:=hL.one
 have YC:=hL.len
 refine A6 λN2 DN=>FY ?_;refine AK ?_ ?_<;>intro h1
 ·have hai:=ha.at i;apply AF;apply DN;refine A6 λN3 DO=>AA<|lP ?_;refine(pR p hp (a.getD i []) b n A0 hai.1 (λk=>(hb.at k).1) A0 A0 (λk=>by have:=(hb.at k).2;omega) _ _).CD ?_
  rintro m1 H1 r1 SF ⟨⟨w,rfl,oE,hws⟩,IA⟩;have hL1:=hL.BV (H':=H1) (λj h1 h2=>IA j A0);try simp-dsimp-implicitDefEqProofs(disch:=(first|omega|((repeat refine LC.CJ A0 ?_);assumption))) only[go_sem,pK,YC,F2 (a:=nx) (b:=m) (L:=L) (cs:=W.map ints)]
  apply DO;refine BX (λG3 J6=>?_);dsimp only at J6;refine lP ?_;refine BB (i+1,G3,.h (m+4+10) 0 (W.length+1),W++[w]) ?_ ?_ ?_
  ·exact E2
  ·have fN:LC G3 nx (m1+3) (.h (m+4+10) 0 (W.length+1)) ((W++[w]).map ints):=LC.mk (by rw[<-J6,AZ];simp(disch:=omega)only[AB,AD];rfl) B5 A0 A0;have hW2:∀z∈W++[w],z.length=n/\smE z:=kE hW ⟨oE,hws⟩;first|exact⟨⟨AI,AI⟩,fN,by simp;omega,hW2⟩|exact⟨AI,fN,by simp;omega,hW2⟩
  exact AI
 apply AO;apply CW;refine FY ?_;refine BQ ?_;exact⟨_,hL.fzR (A1 _),W,rfl,A0,hW⟩
def kI(p)(hp:1<=p/\p<=10)(n)(hn:n<=10)(a b)(ha:Dt n a)(hb:Dt n b)(nx H):AC prog 261 nx H [.i .i64 p,rows a,rows b,.i .i64 n] (zK nx H (AKN n)):=bP (kH p hp n hn a b ha hb nx) H
end
end Go.Proofs.YtgknbnkmilddhaaGreat