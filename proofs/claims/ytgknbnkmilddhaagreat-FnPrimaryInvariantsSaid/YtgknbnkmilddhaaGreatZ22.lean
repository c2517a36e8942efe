import Derived.Test.YtgknbnkmilddhaaGreatProg
import Derived.Lib.ItoaNum
import Derived.Lib.Join
import Derived.Lib.ParseIntB
import Derived.Lib.Bytealg
import Derived.Lib.ConvBytes
import Derived.RangeFuncIn
import Derived.Test.YtgknbnkmilddhaaGreatZ04
import Derived.Test.YtgknbnkmilddhaaGreatZ08
import Derived.Test.YtgknbnkmilddhaaGreatZ16
import Derived.Test.YtgknbnkmilddhaaGreatZ21
set_option linter.all false

open Go.Proofs.Tryz
namespace Go.Proofs.YtgknbnkmilddhaaGreat
section
def Cg{cs k x}(h:k<cs.length):DH cs k [x]=cs.set k x:=by
 rw[DH,FJ,if_pos h];simp
def Ow.AF4{H H' p k n rs ts ids is r X}(h:Ow H (.h p 0 n) (.v n ts) ids)(hp:H p=some rs)(hk:k<rs.length)(ho:Ow H' r X is)(hp':H' p=some (DH rs k [r]))(PU:∀i∈ids,i≠p->H' i=H i)(JO:ids.Nodup):
    rs.length=n/\ts.length=n/\∃l2 l3,(∀i∈l2++l3,i∈ids)/\p∈ids/\p∉l2++l3/\(l2++l3).Nodup/\Ow H' (.h p 0 n) (.v n (ts.set k X)) (p::(l2++(is++l3))):=by
  rcases h.tA _ _ rfl with ⟨e,_⟩|⟨e,_⟩|⟨id,cs2,I1,e,rfl,g1,g2,g3⟩
  · cases e
  · cases e
  injection e with e1 e2 e3
  subst e1;rw[hp]at g1;cases g1;have hlen:=g3.len;obtain⟨wY,vJ⟩:=C1.1 JO;obtain⟨il,ia,ir,rfl,s1,s2,s3⟩:=(g3.BV (H':=H') (λi hi=>PU i (by simp[hi]) (λe=>wY (by rw[<-e];exact hi)))).cut (a:=k) hk;have s4:=PO.set s1 ho s3 hk A0;have:=Ow.h p _ _ _ hp' (by rw[Cg hk];exact s4);rw[Cg hk,D2,g2]at this;refine⟨g2,A0,il,ir,λi hi=>?_,B5,?_,?_,this⟩
  · simp only[AG,BJ]at hi ⊢;grind
  · simp only[AG,not_or]at wY ⊢;grind
  simp only[BA,AG]at vJ ⊢;grind
def LV.API{a m H r P B U X Y b c cs}(h:LV a m H r P B U X Y)(hP:LC H b c P cs)(hX:0<X.length):∃p,P= .h p 0 X.length/\H p=some cs/\cs.length=X.length/\a<=p/\p<m:=by
 obtain⟨i0,i1,i2,⟨h0,h1,h2⟩,h3,h4⟩:=h;rw[SK]at h1;rcases h1.lc hP with ⟨_,_,e,_⟩|⟨q,I1,rfl,g1,g2,rfl,g3⟩
 ·rw[A4]at e;omega
 rw[A4]at g2;exact⟨q,by rw[g2],g1,g2.symm,h4 q B5⟩
def LV.bO{a a' m m' p k n H H' r B r1 U X Y rs x is}(h:LV a m H r (.h p 0 n) B U X Y)(hp:H p=some rs)(hk:k<rs.length)(hn:n=X.length)(ho:Ow H' r1 (ints x) is)(JO:is.Nodup)(hb:∀i∈is,(i<a\/m<=i)/\a'<=i/\i<m')(hp':H' p=some (DH rs k [r1]))(PU:∀i,a<=i->i<m->i≠p->H' i=H i)(hm:m<=m')(ham:a'<=a):LV a' m' H' r (.h p 0 n) B U (X.set k x) Y:=by
 subst hn;obtain⟨i0,i1,i2,⟨h0,h1,h2⟩,h3,h4⟩:=h;unfold rows at h1;have wY:i1.Nodup:=by grind
 obtain⟨g1,g2,l2,l3,g3,g4,g5,g6,g7⟩:=h1.AF4 hp hk ho hp' (λi hi=>PU i (h4 i (by simp[hi])).1 (h4 i (by simp[hi])).2) wY;have CP:∀i,i∈i0\/i∈i2->i≠p:=by
  intro i hi e;subst e;grind
 refine⟨i0,p::(l2++(is++l3)),i2,⟨h0.BV λi hi=>PU i (h4 i (by simp[hi])).1 (h4 i (by simp[hi])).2 (CP i (.inl hi)),?_,h2.BV λi hi=>PU i (h4 i (by simp[hi])).1 (h4 i (by simp[hi])).2 (CP i (.inr hi))⟩,?_,?_⟩
 ·unfold rows;rw[D2,HK];exact g7
 ·have h5:∀i∈i0++(i1++i2),a<=i/\i<m:=h4;simp only[BA,C1,AG,BJ]at h3 h5 g3 g5 g6 ⊢;grind
 intro i hi;simp only[AG,BJ]at hi h4 g3;grind
def LV.APJ{a m k H r P B U X Y b c cs}(h:LV a m H r P B U X Y)(hB:LC H b c B cs)(hk:k<Y.length)(hl:0<(Y.getD k []).length)(Gi:xJ (cs.getD k .j)=true):
    ∃b q ds,B= .h b 0 Y.length/\H b=some cs/\cs.length=Y.length/\(a<=b/\b<m)/\cs.getD k .j= .h q 0 (Y.getD k []).length/\H q=some ds/\ds.length=(Y.getD k []).length/\(a<=q/\q<m)/\q≠b:=by
  obtain⟨i0,i1,i2,⟨h0,h1,h2⟩,h3,h4⟩:=h;rw[YK]at h2;rcases h2.lc hB with ⟨_,_,e,_⟩|⟨b1,I1,rfl,g1,g2,rfl,g3⟩
  · rw[A4]at e;omega
  rw[A4]at g2;obtain⟨il,ia,ir,rfl,s1,s2,s3⟩:=g3.cut (a:=k) A0;rw[IK hk]at s2;unfold rows at s2;rcases s2.tA _ _ rfl with ⟨e,_⟩|⟨_,e,_⟩|⟨q,ds,ls,e,rfl,t1,t2,t3⟩
  · rw[e]at Gi;cases Gi
  · omega
  refine⟨b1,q,ds,by rw[g2],g1,g2.symm,h4 b1 B5,e,t1,t2,h4 q B5,?_⟩;grind
def LV.kB{a a' m m' b q k l n H H' r P r1 U X Y cs ds x is}(h:LV a m H r P (.h b 0 n) U X Y)(iU:H b=some cs)(hk:k<cs.length)(hn:n=Y.length)(hq:cs.getD k .j= .h q 0 (Y.getD k []).length)(hd:H q=some ds)(hl:l<ds.length)(ho:Ow H' r1 (ints x) is)(JO:is.Nodup)(hb:∀i∈is,(i<a\/m<=i)/\a'<=i/\i<m')(hq':H' q=some (DH ds l [r1]))(PU:∀i,a<=i->i<m->i≠q->H' i=H i)(hm:m<=m')(ham:a'<=a):LV a' m' H' r P (.h b 0 n) U X (Y.set k ((Y.getD k []).set l x)):=by
 subst hn;obtain⟨i0,i1,i2,⟨h0,h1,h2⟩,h3,h4⟩:=h;unfold B6 at h2;rcases h2.tA _ _ rfl with ⟨e,_⟩|⟨e,_⟩|⟨b1,cs1,I1,e,rfl,g1,g2,g3⟩
 ·cases e
 ·cases e
 injection e with e1 e2 e3
 subst e1;rw[iU]at g1;cases g1;have vJ:(b::I1).Nodup:=by grind
 obtain⟨hn3,hn4⟩:=C1.1 vJ;obtain⟨il,ia,ir,rfl,s1,s2,s3⟩:=g3.cut (a:=k) hk;rw[IK A0,hq]at s2;unfold rows at s2;have hna:ia.Nodup:=by grind
 have hia:∀i∈ia,a<=i/\i<m:=λi hi=>h4 i (by simp[hi])
 obtain⟨w1,w2,l2,l3,w3,w4,w5,w6,w7⟩:=s2.AF4 hd hl ho hq' (λi hi CP=>PU i (hia i hi).1 (hia i hi).2 CP) hna;have APK:∀i,i∈i0\/i∈i1\/i=b\/i∈il\/i∈ir->i≠q:=by
  intro i hi e;subst e;simp only[BA,C1,AG,BJ,not_or]at h3;grind
 have R8:∀i,i∈i0\/i∈i1\/i=b\/i∈il\/i∈ir->H' i=H i:=by
  intro i hi;have h5:a<=i/\i<m:=h4 i (by simp only[AG,BJ];grind);exact PU i h5.1 h5.2 (APK i hi)
 have v4:=PO.set (s1.BV λi hi=>R8 i (by simp[hi])) w7 (s3.BV λi hi=>R8 i (by simp[hi])) hk (by simp;omega);have U3:cs.set k (.h q 0 (Y.getD k []).length)=cs:=by
  apply C7;intro i;rw[CL];split
  ·rename_i e;subst e;rw[<-hq,A5,A9 hk];rfl
  rfl
 rw[U3]at v4;have v5:=Ow.h b _ _ _ ((R8 b B5).trans iU) v4;refine⟨i0,i1,b::(il++(q::(l2++(is++l3))++ir)),⟨h0.BV λi hi=>R8 i (by simp[hi]),h1.BV λi hi=>R8 i (by simp[hi]),?_⟩,?_,?_⟩
 ·rw[g2]at v5;unfold B6;rw[D2,HK];have e9:rows ((Y.getD k []).set l x)= .v (Y.getD k []).length (((Y.getD k []).map ints).set l (ints x)):=by unfold rows;rw[D2,HK]
  rw[e9];exact v5
 ·have h5:∀i∈i0++(i1++b::(il++(ia++ir))),a<=i/\i<m:=h4;simp only[BA,C1,AG,BJ]at h3 h5 w3 w5 w6 ⊢;grind
 intro i hi;simp only[AG,BJ]at hi h4 w3;grind
def LV.IY{a m b c b' c' p q H r P B U X Y cs LI}(h:LV a m H r P B U X Y)(hP:LC H b c P cs)(hB:LC H b' c' B LI)(hp:bk P=p+1){k}(hk:k<LI.length)(hq:bk (LI.getD k .j)=q+1):p≠q/\bk B≠p+1/\bk B≠q+1:=by
 obtain⟨i0,i1,i2,⟨h0,h1,h2⟩,h3,h4⟩:=h;have g1:=h1.yJ hP hp;unfold B6 at h2;rcases h2.lc hB with ⟨_,rfl,_⟩|⟨b1,I1,rfl,g2,g3,rfl,g4⟩
 ·simp at hk
 obtain⟨il,ia,ir,rfl,s1,s2,s3⟩:=g4.cut (a:=k) hk;have hqi:q∈ia:=by
  generalize hc:LI.getD k .j=C at s2 hq
  generalize (Y.map rows).getD k .j=Z at s2
  cases s2 with
  |leaf _ hf hn=>cases C<;>simp only[bk]at hq<;>first|omega|(cases hn)
  |nl=>cases hq
  |h id cs ts I1 g1 g2=>simp only[bk]at hq;simp;omega
  |q=>cases hq
  |g=>cases hq
  |t=>cases hq
 simp only[bk];simp only[BA,C1,AG,BJ,not_or]at h3;refine⟨?_,?_,?_⟩<;>grind
def gG.bO{a m k H r P B U X Y cp cb}(h:gG a m H r P B U X Y cp cb)(hk:k<X.length):∃p,P= .h p 0 X.length/\H p=some cp/\cp.length=X.length/\(a<=p/\p<m)/\
    ∀(H':HP) (r1:AV) (x:C2) (is:List Nat) (a' m':Nat),Ow H' r1 (ints x) is->is.Nodup->(∀i∈is,(i<a\/m<=i)/\a'<=i/\i<m')->H' p=some (DH cp k [r1])->(∀i,a<=i->i<m->i≠p->H' i=H i)->m<=m'->a'<=a->gG a' m' H' r P B U (X.set k x) Y (DH cp k [r1]) cb:=by
  obtain⟨h1,h2,h3,h4⟩:=h;obtain⟨p,rfl,hp,hl,p1,p2⟩:=h1.API h2 A0;refine⟨p,rfl,hp,hl,⟨p1,p2⟩,λH' r1 x is a' m' g1 g2 g3 g4 g5 g6 g7=>⟨h1.bO hp A0 rfl g1 g2 g3 g4 g5 g6 g7,?_,?_,h4⟩⟩
  · exact .mk g4 (by rw[fR (by simp;omega)];exact hl.symm) A0 A0
  have CP:bk B≠p+1:=by
    have:=h1.ne h2 h3;rw[show bk (.h p 0 X.length)=p+1 from rfl]at this;omega
  exact(h3.RQ (λi hi=>g5 i (by have:=h3.bd;omega) (by have:=h3.bd;omega) (λe=>CP (by rw[<-e];exact hi)))).wide g7 g6
def gG.kB{a m k l H r P B U X Y cp cb}(h:gG a m H r P B U X Y cp cb)(hk:k<Y.length)(hl:l<(Y.getD k []).length):∃b q ds,B= .h b 0 Y.length/\H b=some cb/\cb.length=Y.length/\(a<=b/\b<m)/\cb.getD k .j= .h q 0 (Y.getD k []).length/\H q=some ds/\ds.length=(Y.getD k []).length/\(a<=q/\q<m)/\q≠b/\
    ∀(H':HP) (r1:AV) (x:C2) (is:List Nat) (a' m':Nat),Ow H' r1 (ints x) is->is.Nodup->(∀i∈is,(i<a\/m<=i)/\a'<=i/\i<m')->H' q=some (DH ds l [r1])->(∀i,a<=i->i<m->i≠q->H' i=H i)->m<=m'->a'<=a->gG a' m' H' r P B U X (Y.set k ((Y.getD k []).set l x)) cp cb:=by
  obtain⟨h1,h2,h3,h4⟩:=h;have hlen:k<cb.length:=by
    obtain⟨i0,i1,i2,⟨g0,g1,g2⟩,_⟩:=id h1;rw[YK]at g2;rcases g2.lc h3 with ⟨_,_,e,_⟩|⟨_,_,_,_,e,_⟩<;>rw[A4]at e<;>omega
  have Q6:xJ (cb.getD k .j)=true:=h4 _ (by rw[A5,A9 hlen];exact BK _);obtain⟨b,q,ds,rfl,hb,KW,b12,hq,hd,Lj,q12,Dw⟩:=h1.APJ h3 hk A0 Q6;refine⟨b,q,ds,rfl,hb,KW,b12,hq,hd,Lj,q12,Dw,λH' r1 x is a' m' g1 g2 g3 g4 g5 g6 g7=>⟨h1.kB hb hlen rfl hq hd A0 g1 g2 g3 g4 g5 g6 g7,?_,?_,h4⟩⟩
  · refine(h2.RQ (λi hi=>g5 i (by have:=h2.bd;omega) (by have:=h2.bd;omega) (λe=>?_))).wide g7 g6;have:=h1.IY h2 h3 hi hlen (q:=q) (by rw[hq];rfl);exact this.1 e
  exact .mk (by rw[g5 b b12.1 b12.2 (λe=>Dw e.symm)];exact hb) KW.symm A0 A0
def Wu{α:Type}(f:α->AV){L:List α}{k:Nat}{d:α}(h:k<L.length):(L.map f).take (k+1)=(L.map f).take k++[f (L.getD k d)]:=by
 rw[B7 (by simpa using h)];simp[h]
def KX(pw)(o0:FC pw):∀nx,AC prog 123 nx DD [rows pw] (λDI H' r=>∃cs,xI nx DI H' r cs (pw.map ints)):=by
 have hl:pw.length<=1048576:=o0.n
 have hr:∀k,k<pw.length->(pw.getD k []).length<=1048576:=λk _=>XB (P:=λx:C2=>x.length<=1048576) o0.v B5 k
 intro nx
 refine ED AY func123 rfl AP ntmps123 results123 (λcX=>?_)
 refine FY ?_;refine FY ?_;refine A6 λN1 CW=>FY ?_;refine AA<|AM (α:=Nat×HP×AV×List AV) (λx=>sl 21 [(0,rows pw),(3,x.2.2.1),(4,.i .i64 x.1)]) (λx=>x.2.1) (λx m=>(x.1<=pw.length/\nx<=m)/\xI nx m x.2.1 x.2.2.1 x.2.2.2 ((pw.map ints).take x.1)) (λx=>pw.length-x.1) ((0,CJ DD (nx+1) (some []),.h (nx+1) 0 0,[])) ?_ ?_ (λ_ _ h=>h) ?_
 ·exact⟨⟨B5,AI⟩,by simpa using xI.empty (AD _ _ _) A0 AI⟩
 ·exact E2
 rintro⟨k,G,L,cs⟩ m ⟨⟨hk,hm⟩,hL⟩
 refine BH ?_;dsimp only at hk hm hL ⊢
 have WW:=hL.1
 have Xz:=WW.bd
 have pK:=WW.one
 have YC:=WW.len
 have KW:=hL.len
 rw[B1,A4]at KW
 refine A6 λN2 DN=>FY ?_;refine AK ?_ ?_<;>intro h1
 ·have NC:k<pw.length:=A0;have oY:cs.length=k:=A0;apply AF;apply DN;refine A6 λN3 DO=>AA<|lP ?_;refine AC.own (A9V (pw.getD k []) (by have:=hr k NC;omega)) (.cons (.refl _) .nil) ?_
  intro m3 H3 r3 A2O U5 Ds IB;obtain⟨u4,u5,u6⟩:=IB.1.slice;have YD:LC H3 nx m L cs:=WW.BV (λi i1 i2=>Ds i A0);have u7:=FE u5;try simp-dsimp-implicitDefEqProofs(disch:=(first|omega|((repeat refine LC.CJ A0 ?_);assumption))) only[go_sem,u4,u5,u6,u7,YC,oY,F2 (a:=nx) (b:=m) (L:=L) (cs:=cs)]
  apply DO;refine BX (λG3 J6=>?_);dsimp only at J6;refine lP ?_;refine BB (k+1,G3,.h (m+4+7) 0 (k+1),cs++[r3]) ?_ ?_ ?_
  ·exact E2
  ·refine⟨⟨AI,AI⟩,?_⟩;dsimp only;rw[Wu ints NC (d:=[])];have hpu:=hL.push (H':=G3) (id:=m+4+7) (m':=m3) (IB.1.BV (λi hi=>by have:=IB.2.2 i hi;rw[<-J6];simp(disch:=omega)only[AB,DW])) IB.2.1 (λi hi=>by have:=IB.2.2 i hi;omega) (by rw[<-J6];simp(disch:=omega)only[AD]) A0 (λhi=>by have:=IB.2.2 _ hi;omega) A0 (λi i1 i2 i3=>by rw[<-J6];simp(disch:=omega)only[AB,DW];exact Ds i A0);rw[oY]at hpu;exact hpu.BV (λ_ _ _=>rfl) AI
  exact AI
 have v7:k=pw.length:=A0
 rw[AJ (by rw[A4];omega)]at hL
 apply AO;apply CW;refine FY ?_;refine BQ ?_;exact⟨cs,hL.BV (λ_ _ _=>rfl) A0⟩
def AA3(a)(ha:a.length<=1099511627776)(nx H):AC prog 87 nx H [ints a] (λDI H' r=>xJ r=true/\(∃ids,Own nx DI H' r (ints a) ids)/\∀i,i<nx->H' i=H i):=by
 refine(IM a ha nx H).mono ?_;rintro DI H' r ⟨id,rfl,h1,h2,rfl⟩;exact⟨rfl,⟨_,Own.ints (by rw[AD,RK]) rfl h1 h2⟩,λi hi=>AB _ _ A0⟩
def mkO{N:St->Prop}{C:Nat->HP->AV->AV->List Nat->List AV->Prop}{S:Nat->HP->AV->AV->St}{G:Prop}(h1:(∀m H r P ids cs,C m H r P ids cs->N (S m H r P))->G)(h2:∀m H r P ids cs,C m H r P ids cs->N (S m H r P)):G:=h1 h2
def mkL{N:St->Prop}{C:Nat->HP->AV->List AV->Prop}{S:Nat->HP->AV->St}{G:Prop}(h1:(∀m H L cs,C m H L cs->N (S m H L))->G)(h2:∀m H L cs,C m H L cs->N (S m H L)):G:=h1 h2
set_option maxHeartbeats 4000000 in
def fE(U pw cj)(h0:U.length<=1048576)(h1:FC pw)(h2:NU cj):∀nx,AC prog 175 nx DD [CI U pw cj] (λDI H' r=>∃r0 P B cp cb,r= .g [r0,P,B]/\gG nx DI H' r0 P B U pw cj cp cb/\xJ r0=true):=by
 intro nx
 refine ED AY func175 rfl AP ntmps175 results175 (λcX=>?_)
 refine GC ?_;refine BN 1 nx [ints U,rows pw,B6 cj] rfl J4 ?_
 refine BH ?_;refine A6 λN hN=>?_;apply mkO (N:=N)
 ·intro key;refine K5 AY AP [true,true,false,true,true,false,false,false,false] (.br 2 (.br 5 (.br 6 (.br 7 (.br 8 .nil .nil) .nil) (.br 7 (.br 6 (.br 8 .nil .nil) .nil) .nil)) (.br 7 (.br 5 (.br 6 (.br 8 .nil .nil) .nil) .nil) .nil)) (.br 7 (.br 2 (.br 5 (.br 6 (.br 8 .nil .nil) .nil) .nil) .nil) .nil)) AP ?_;refine FF ?_;refine⟨?_,?_⟩
  ·refine(AA3 U A0 _ _).CD ?_;rintro m0 H0 r0 hm0 ⟨Wv,⟨Gk,OM⟩,Oa⟩;obtain⟨u1,u2,u3⟩:=OM.1.slice;refine tH u1 u2 u3 ?_
   refine⟨?_,?_⟩
   ·refine(AC.frame (KX pw h1 _)).CD ?_;rintro m1 H1 P SF ⟨G0,⟨cp,hOP⟩,IA,LH⟩;have Mp:=hOP.BV (H':=H1) (λi i1 i2=>LH i i1) (A1 _);obtain⟨v1,v2⟩:=hOP.1.cells;have v3:=hOP.1.one;have EO:=OM.BV (H':=H1) (λi i1 i2=>IA i i2) (A1 _) (A1 _);have hb:H1 (nx+1)=some [.nl,.nl,.nl]:=by rw[IA _ A0,Oa _ A0];simp(disch:=omega)only[AB,AD]
    ((try simp-dsimp-implicitDefEqProofs(disch:=omega)only[go_sem,and_self,CI,u1,u2,u3,v1,v2,v3]));exact key m1 H1 r0 P Gk cp (And.intro hb (Exists.intro m0 (And.intro (And.intro (And.intro hm0 Wv) SF) (And.intro EO Mp))))
   refine(AC.frame (KX pw h1 _)).CD ?_;rintro m1 H1 P SF ⟨G0,⟨cp,hOP⟩,IA,LH⟩;have Mp:=hOP.BV (H':=H1) (λi i1 i2=>LH i i1) (A1 _);obtain⟨v1,v2⟩:=hOP.1.cells;have v3:=hOP.1.one;have EO:=OM.BV (H':=H1) (λi i1 i2=>by rw[IA i i2];exact D8) (A1 _) (A1 _);have hb:H1 (nx+1)=some [.nl,.nl,.nl]:=by rw[IA _ A0];simp(disch:=omega)only[AB];rw[Oa _ A0];simp(disch:=omega)only[AB,AD]
   have hc:H1 (nx+2+7)=some [.nl,.nl,.nl]:=by rw[IA _ A0];simp(disch:=omega)only[AD]
   (try simp-dsimp-implicitDefEqProofs(disch:=omega)only[go_sem,and_self,CI,u1,u2,u3,v1,v2,v3,hc])
   exact key m1 H1 r0 P Gk cp (And.intro hb (Exists.intro m0 (And.intro (And.intro (And.intro hm0 Wv) SF) (And.intro EO Mp))))
  refine(AA3 U A0 _ _).CD ?_;rintro m0 H0 r0 hm0 ⟨Wv,⟨Gk,OM⟩,Oa⟩;obtain⟨u1,u2,u3⟩:=OM.1.slice;refine tH u1 u2 u3 ?_
  refine(AC.frame (KX pw h1 _)).CD ?_;rintro m1 H1 P SF ⟨G0,⟨cp,hOP⟩,IA,LH⟩;have Mp:=hOP.BV (H':=H1) (λi i1 i2=>LH i i1) (A1 _);obtain⟨v1,v2⟩:=hOP.1.cells;have v3:=hOP.1.one;have EO:=OM.BV (H':=H1) (λi i1 i2=>IA i i2) (A1 _) (A1 _);have hb:H1 (nx+1)=some [.nl,.nl,.nl]:=by rw[IA _ A0,Oa _ A0];simp(disch:=omega)only[AB,AD]
  have hc:H1 (nx+2+7)=some [.nl,.nl,.nl]:=by rw[IA _ A0,Oa _ A0];simp(disch:=omega)only[AB,AD]
  (try simp-dsimp-implicitDefEqProofs(disch:=omega)only[go_sem,and_self,CI,u1,u2,u3,v1,v2,v3,hc])
  exact key m1 H1 r0 P Gk cp (And.intro hb (Exists.intro m0 (And.intro (And.intro (And.intro hm0 Wv) SF) (And.intro EO Mp))))
 intro m1 H1 r0 P Gk cp hC
 obtain⟨hb,m0,⟨⟨hm0,Wv⟩,SF⟩,EO,Mp⟩:=hC
 apply hN;refine A6 λN1 CW=>GC ?_;refine AA<|BX (λG1 K6=>?_);dsimp only at K6
 have eV:G1 (nx+9)=some [r0,P,.nl]:=by rw[<-K6];simp(disch:=omega)only[AD]
 have cH:G1 (nx+1)=some [.nl,.nl,.nl]:=by rw[<-K6,<-hb];simp(disch:=omega)only[AB]
 obtain⟨APL,JR,w1,w2,w3⟩:=Mp
 have APM:LC G1 m0 m1 P cp:=APL.BV (λi i1 i2=>by rw[<-K6];exact D8)
 have APN:LV (nx+11) m1 G1 r0 P .nl U pw []:=by
  refine⟨Gk,JR,[],⟨EO.1.BV (λi hi=>by have:=EO.2.2 i hi;rw[<-K6];exact D8),?_,.nl⟩,?_,?_⟩
  ·rw[SK];exact w1.BV (λi hi=>by have:=w3 i hi;rw[<-K6];exact D8)
  ·rw[C5,BA];exact⟨EO.2.1,w2,λx hx y hy e=>by have:=EO.2.2 x hx;have:=w3 y hy;omega⟩
  intro i hi;rw[C5,AG]at hi;rcases hi with hi|hi
  ·have:=EO.2.2 i hi;omega
  have:=w3 i hi;omega
 have KW:cj.length<=1048576:=h2.n
 refine AM (α:=Nat×HP×AV×List AV) (λx=>sl 31 [(1,.p 0 [ints U,rows pw,B6 cj]),(2,.q (nx+1) 0),(3,.q (nx+9) 0),(4,.i .i64 x.1)]) (λx=>x.2.1) (λx m=>(x.1<=cj.length/\m1<=m)/\(x.2.1 (nx+9)=some [r0,P,x.2.2.1]/\x.2.1 (nx+1)=some [.nl,.nl,.nl])/\LV (nx+11) m x.2.1 r0 P x.2.2.1 U pw (cj.take x.1)/\LC x.2.1 (nx+11) m P cp/\(LC x.2.1 (nx+11) m x.2.2.1 x.2.2.2/\x.2.2.2.length=x.1)/\∀y∈x.2.2.2,xJ y=true) (λx=>cj.length-x.1) ((0,G1,.nl,[])) ?_ ?_ (λ_ _ h=>h) ?_
 ·exact⟨⟨B5,AI⟩,⟨eV,cH⟩,by simpa using APN.BV (λ_ _ _=>rfl) AI,APM.wide A0 AI,⟨.nil,rfl⟩,B5⟩
 ·exact FV
 rintro⟨k,G,B,cb⟩ m ⟨⟨hk,hm⟩,⟨hq,hx⟩,n7,Ro,⟨qL,uY⟩,Gi⟩
 refine BH ?_;dsimp only at hk hm hq hx n7 Ro qL uY Gi ⊢
 have hPb:=Ro.bd
 have hPo:=Ro.one
 have hBb:=qL.bd
 have Wg:=qL.one
 have Iq:=qL.len
 refine A6 λN2 DN=>sQ λN hN=>?_;simp-dsimp-implicitDefEqProofs(disch:=omega)only[go_sem,B6,CI];apply hN;refine AK ?_ ?_<;>intro h1
 ·have eA:k<cj.length:=A0;have Jr:FC (cj.getD k []):=XB h2.v .nil k;apply AF;apply DN;refine A6 λN3 DO=>AA<|AW.name λN hN=>?_;apply mkL (N:=N)
  ·intro key;refine K5 AY AP [true,false,true,true,true,true,true,false,false,false,true,false] (.br 1 (.br 7 (.br 8 (.br 9 (.br 11 .nil .nil) .nil) .nil) .nil) (.br 7 (.br 1 (.br 8 (.br 9 (.br 11 .nil .nil) .nil) .nil) (.br 8 (.br 1 (.br 9 (.br 11 .nil .nil) .nil) .nil) .nil)) .nil)) AP ?_;(try simp-dsimp-implicitDefEqProofs(disch:=omega)only[go_sem,B6,DW,IK,CI,↓On,↓Oo,↓Om,hq,Wg,Iq,uY]);refine⟨?_,?_⟩
   ·refine(AC.frame (KX (cj.getD k []) Jr _)).CD ?_;rintro m3 H3 L U5 ⟨G0,⟨cl,Jg⟩,IA,LH⟩;have AF5:=Jg.BV (H':=H3) (λi i1 i2=>LH i i1) (A1 _);obtain⟨v1,v2⟩:=Jg.1.cells;have v3:=FE Jg.1.one;have APO:LC H3 (nx+11) m B cb:=qL.BV (λi i1 i2=>IA i A0);have sA:H3 (nx+9)=some [r0,P,B]:=(IA _ A0).trans hq;try simp-dsimp-implicitDefEqProofs(disch:=(first|omega|((repeat refine LC.CJ A0 ?_);assumption))) only[go_sem,CI,v1,v2,v3,sA,Wg,Iq,uY,DW,FE Wg,and_self,F2 (a:=nx+11) (b:=m) (L:=B) (cs:=cb)]
    exact key m3 H3 L cl (And.intro U5 (And.intro IA AF5))
   refine(AC.frame (KX (cj.getD k []) Jr _)).CD ?_;rintro m3 H3 L U5 ⟨G0,⟨cl,Jg⟩,IA,LH⟩;have AF5:=Jg.BV (H':=H3) (λi i1 i2=>LH i i1) (A1 _);obtain⟨v1,v2⟩:=Jg.1.cells;have v3:=FE Jg.1.one;have APO:LC H3 (nx+11) m B cb:=qL.BV (λi i1 i2=>IA i A0);have sA:H3 (nx+9)=some [r0,P,B]:=(IA _ A0).trans hq;try simp-dsimp-implicitDefEqProofs(disch:=(first|omega|((repeat refine LC.CJ A0 ?_);assumption))) only[go_sem,CI,v1,v2,v3,sA,Wg,Iq,uY,DW,FE Wg,and_self,F2 (a:=nx+11) (b:=m) (L:=B) (cs:=cb)]
   exact key m3 H3 L cl (And.intro U5 (And.intro IA AF5))
  intro m3 H3 L cl hC;obtain⟨U5,IA,WW,ZU,o1,o2,o3⟩:=hC;apply hN;apply DO;refine BX (λG5 KK=>?_);dsimp only at KK;have AEH:G5 (nx+9)=some [r0,P,.h (m+5+9) 0 (k+1)]:=by rw[<-KK];simp(disch:=omega)only[AD]
  have A2P:G5 (m+5+9)=some (cb++[L]):=by rw[<-KK];simp(disch:=omega)only[AD,AB]
  have Gm:∀i,i<m->i≠nx+9->bk B≠i+1->G5 i=G i:=λi i1 i2 i3=>by rw[<-KK];simp(disch:=omega)only[AB,DW];exact IA i A0
  have APP:∀i,m+5+12<=i->G5 i=H3 i:=λi i1=>by rw[<-KK];simp(disch:=omega)only[AB,DW]
  have hPB:=n7.ne Ro qL;have A2Q:LV (nx+11) m3 G5 r0 P (.h (m+5+9) 0 (k+1)) U pw (cj.take (k+1)):=by
   have ht:cj.take (k+1)=cj.take k++[cj.getD k []]:=by
    rw[B7 eA];simp[eA]
   rw[ht];have:=n7.A99 (m':=m3) (x:=cj.getD k []) (r1:=L) (is:=ZU) (H':=G5) (id:=m+5+9) qL (by rw[SK];exact o1.BV (λi hi=>by have:=o3 i hi;exact APP i A0)) o2 (λi hi=>by have:=o3 i hi;omega) A2P A0 (λhi=>by have:=o3 _ hi;omega) A0 (λi i1 i2 i3=>Gm i A0 A0 i3);rwa [uY]at this
  refine OK ?_;refine BB (k+1,G5,.h (m+5+9) 0 (k+1),cb++[L]) ?_ ?_ ?_
  ·exact I2
  ·refine⟨⟨AI,AI⟩,⟨AEH,?_⟩,A2Q.BV (λ_ _ _=>rfl) AI,?_,⟨.mk A2P (by simp[uY]) A0 AI,by simp[uY]⟩,Ph Gi WW.xJ⟩
   ·dsimp only;rw[Gm _ A0 A0 A0];exact hx
   exact(Ro.RQ (λi i1=>Gm i A0 A0 A0)).wide (A1 _) AI
  exact AI
 have v7:k=cj.length:=A0
 rw[AJ A0]at n7
 apply AO;apply CW;refine sQ λN hN=>?_;simp-dsimp-implicitDefEqProofs(disch:=omega)only[go_sem,CI,hq,hx,(EO.1.slice).2.1,hPo,Wg,FR]
 apply hN;refine BQ ?_;exact⟨r0,P,B,cp,cb,rfl,gG.wide (gG.BV ⟨n7,Ro,qL,Gi⟩ (λi i1 i2=>by exact D8) (A1 _)) A0 A0,Wv⟩
def xV(U pw cj)(h0:U.length<=1048576)(h1:FC pw)(h2:NU cj)(nx):AC prog 175 nx DD [CI U pw cj] (λDI H' r=>∃r0 P B cp cb,r= .g [r0,P,B]/\gG nx DI H' r0 P B U pw cj cp cb):=(fE U pw cj h0 h1 h2 nx).mono λ_ _ _ ⟨r0,P,B,cp,cb,e,h,_⟩=>⟨r0,P,B,cp,cb,e,h⟩
def PO.eqI{H}:∀{xs:C2} {cs:List AV} {ks:List Nat},PO H cs (xs.map (.i .i64)) ks->cs=xs.map (.i .i64)/\ks=[]:=by
 intro xs;induction xs with
 |nil=>intro cs ks h;cases h;exact⟨rfl,rfl⟩
 | cons x xs ih=>
   intro cs ks h;rw[BR]at h;cases h with
   |cons y z ys zs is js h1 h2=>
    obtain⟨rfl,rfl⟩:=ih h2;cases h1;exact⟨rfl,rfl⟩
def Ow.AL4{H r a ids}(h:Ow H r (Go.Proofs.YtgknbnkmilddhaaGreat.ints a) ids)(hp:0<a.length):∃id,r= .h id 0 a.length/\ids=[id]/\H id=some (a.map (.i .i64)):=by
 unfold Go.Proofs.YtgknbnkmilddhaaGreat.ints at h;rcases h.tA _ _ rfl with ⟨e,_⟩|⟨_,e,_⟩|⟨id,cs,I1,rfl,rfl,g1,g2,g3⟩
 ·subst e;cases h with
  |leaf _ hf hn=>cases a with
   |nil=>simp at hp
   |cons x xs=>cases hf
 ·omega
 obtain⟨rfl,rfl⟩:=g3.eqI;exact⟨id,rfl,rfl,g1⟩
def Ow.A3F{H r n ts ids}(h:Ow H r (.v n ts) ids)(hp:0<n):∃id cs I1,r= .h id 0 n/\ids=id::I1/\H id=some cs/\cs.length=n/\PO H cs ts I1:=by
 rcases h.tA _ _ rfl with ⟨e,_⟩|⟨_,e,_⟩|h
 ·subst e;cases h with
  |leaf _ hf hn=>cases hf;omega
 ·omega
 exact h
def Hf{α:Type}{cs:List α}{k:Nat}{d x:α}(hk:k<cs.length)(h:cs.getD k d=x):cs.set k x=cs:=by
 apply C7;intro i;rw[CL];split
 ·rename_i e;subst e;rw[<-h,A5,A9 hk];rfl
 rfl
def Ow.AL5{H r a ids l}(h:Ow H r (Go.Proofs.YtgknbnkmilddhaaGreat.ints a) ids)(hl:l<a.length):
    ∃q,r= .h q 0 a.length/\ids=[q]/\H q=some (a.map (.i .i64))/\∀v,Ow (CJ H q (some (DH (a.map (.i .i64)) l [.i .i64 v]))) r (Go.Proofs.YtgknbnkmilddhaaGreat.ints (a.set l v)) ids:=by
  obtain⟨q,rfl,rfl,h1⟩:=h.AL4 A0;refine⟨q,rfl,rfl,h1,λv=>Ow.ints ?_ B5⟩;rw[AD,Cg (by simpa using hl),HK]
def Ow.A3G{H r W ids k l}(h:Ow H r (rows W) ids)(JO:ids.Nodup)(hk:k<W.length)(hl:l<(W.getD k []).length):
    ∃ p rs q,r= .h p 0 W.length/\H p=some rs/\rs.length=W.length/\rs.getD k .j= .h q 0 (W.getD k []).length/\H q=some ((W.getD k []).map (.i .i64))/\p∈ids/\q∈ids/\p≠q/\
      ∀v,Ow (CJ H q (some (DH ((W.getD k []).map (.i .i64)) l [.i .i64 v]))) r (rows (W.set k ((W.getD k []).set l v))) ids:=by
  unfold rows at h;obtain⟨p,rs,js,rfl,rfl,h1,h2,h3⟩:=h.A3F A0;obtain⟨il,is,ir,rfl,s1,s2,s3⟩:=h3.cut (a:=k) A0;rw[EY hk]at s2;obtain⟨q,e,rfl,h4,h5⟩:=s2.AL5 hl;obtain⟨wY,vJ⟩:=C1.1 JO;simp only[AG,BY,not_or]at wY;have AF6:q∉il:=by simp only[BA,AG,BY]at vJ;grind
  have AF7:q∉ir:=by simp only[BA,AG,BY]at vJ;grind
  refine⟨p,rs,q,rfl,h1,h2,e,h4,B5,B5,λe2=>wY.2.1 e2,λv=>?_⟩;have s4:=PO.set (s1.BV λi hi=>AB _ _ (λe2=>AF6 (by rw[<-e2];exact hi))) (h5 v) (s3.BV λi hi=>AB _ _ (λe2=>AF7 (by rw[<-e2];exact hi))) (a:=k) A0 (by simpa using hk);rw[Hf A0 rfl]at s4;have:=Ow.h p rs _ _ ((AB _ _ (λe2=>wY.2.1 e2)).trans h1) s4;rw[h2]at this;unfold rows;rw[D2,HK];exact this
def Ow.AF8{H r C ids c k l}(h:Ow H r (B6 C) ids)(JO:ids.Nodup)(hc:c<C.length)(hk:k<(C.getD c []).length)(hl:l<((C.getD c []).getD k []).length):
    ∃ b bs p rs q,r= .h b 0 C.length/\H b=some bs/\bs.length=C.length/\bs.getD c .j= .h p 0 (C.getD c []).length/\H p=some rs/\rs.length=(C.getD c []).length/\rs.getD k .j= .h q 0 ((C.getD c []).getD k []).length/\H q=some (((C.getD c []).getD k []).map (.i .i64))/\b∈ids/\p∈ids/\q∈ids/\(b≠p/\b≠q/\p≠q)/\
      ∀v,Ow (CJ H q (some (DH (((C.getD c []).getD k []).map (.i .i64)) l [.i .i64 v]))) r (B6 (C.set c ((C.getD c []).set k (((C.getD c []).getD k []).set l v)))) ids:=by
  unfold B6 at h;obtain⟨b,bs,js,rfl,rfl,h1,h2,h3⟩:=h.A3F A0;obtain⟨il,is,ir,rfl,s1,s2,s3⟩:=h3.cut (a:=c) A0;rw[IK hc]at s2;obtain⟨wY,vJ⟩:=C1.1 JO;have APQ:is.Nodup:=by simp only[BA,AG]at vJ;grind
  obtain⟨p,rs,q,e,h4,h5,h6,h7,hp,hq,hpq,h8⟩:=s2.A3G APQ hk hl;simp only[AG,not_or]at wY;have AF6:q∉il:=by simp only[BA,AG]at vJ;grind
  have AF7:q∉ir:=by simp only[BA,AG]at vJ;grind
  have VO:b≠p:=λe2=>wY.2.1 (by rw[e2];exact hp)
  have Sy:b≠q:=λe2=>wY.2.1 (by rw[e2];exact hq)
  refine⟨b,bs,p,rs,q,rfl,h1,h2,e,h4,h5,h6,h7,B5,by simp[hp],by simp[hq],⟨VO,Sy,hpq⟩,λv=>?_⟩;have s4:=PO.set (s1.BV λi hi=>AB _ _ (λe2=>AF6 (by rw[<-e2];exact hi))) (h8 v) (s3.BV λi hi=>AB _ _ (λe2=>AF7 (by rw[<-e2];exact hi))) (a:=c) A0 (by simpa using hc);rw[Hf A0 rfl]at s4;have:=Ow.h b bs _ _ ((AB _ _ Sy).trans h1) s4;rw[h2]at this;unfold B6;rw[D2,HK];exact this
section
variable{a m:Nat}{H:HP}{r P B:AV}{U:C2}{X:D4}{Y:E6}
def LV.AL6{k}(h:LV a m H r P B U X Y)(hk:k<U.length):∃q,r= .h q 0 U.length/\H q=some (U.map (.i .i64))/\(a<=q/\q<m)/\∀v,LV a m (CJ H q (some (DH (U.map (.i .i64)) k [.i .i64 v]))) r P B (U.set k v) X Y:=by
 obtain⟨i0,i1,i2,⟨h0,h1,h2⟩,JO,jV⟩:=h;obtain⟨q,e,rfl,g1,g2⟩:=h0.AL5 hk;have n1:q∉i1++i2:=(C1.1 JO).1;simp only[AG,not_or]at n1;exact⟨q,e,g1,jV q B5,λv=>⟨[q],i1,i2,⟨g2 v,h1.BV λi hi=>AB _ _ (λe2=>n1.1 (by rw[<-e2];exact hi)),h2.BV λi hi=>AB _ _ (λe2=>n1.2 (by rw[<-e2];exact hi))⟩,JO,jV⟩⟩
def LV.A3G{k l}(h:LV a m H r P B U X Y)(hk:k<X.length)(hl:l<(X.getD k []).length):
    ∃ p rs q,P= .h p 0 X.length/\H p=some rs/\rs.length=X.length/\rs.getD k .j= .h q 0 (X.getD k []).length/\H q=some ((X.getD k []).map (.i .i64))/\(a<=p/\p<m)/\(a<=q/\q<m)/\p≠q/\
      ∀v,LV a m (CJ H q (some (DH ((X.getD k []).map (.i .i64)) l [.i .i64 v]))) r P B U (X.set k ((X.getD k []).set l v)) Y:=by
  obtain⟨i0,i1,i2,⟨h0,h1,h2⟩,JO,jV⟩:=h;have wY:i1.Nodup:=by simp only[BA,AG]at JO;grind
  obtain⟨p,rs,q,e,g1,g2,g3,g4,g5,g6,g7,g8⟩:=h1.A3G wY hk hl;have n0:q∉i0:=by simp only[BA,AG]at JO;grind
  have n2:q∉i2:=by simp only[BA,AG]at JO;grind
  exact⟨p,rs,q,e,g1,g2,g3,g4,jV p (by simp[g5]),jV q (by simp[g6]),g7,λv=>⟨i0,i1,i2,⟨h0.BV λi hi=>AB _ _ (λe2=>n0 (by rw[<-e2];exact hi)),g8 v,h2.BV λi hi=>AB _ _ (λe2=>n2 (by rw[<-e2];exact hi))⟩,JO,jV⟩⟩
def LV.AF8{c k l}(h:LV a m H r P B U X Y)(hc:c<Y.length)(hk:k<(Y.getD c []).length)(hl:l<((Y.getD c []).getD k []).length):
    ∃ b bs p rs q,B= .h b 0 Y.length/\H b=some bs/\bs.length=Y.length/\bs.getD c .j= .h p 0 (Y.getD c []).length/\H p=some rs/\rs.length=(Y.getD c []).length/\rs.getD k .j= .h q 0 ((Y.getD c []).getD k []).length/\H q=some (((Y.getD c []).getD k []).map (.i .i64))/\(a<=b/\b<m)/\(a<=p/\p<m)/\(a<=q/\q<m)/\(b≠p/\b≠q/\p≠q)/\
      ∀v,LV a m (CJ H q (some (DH (((Y.getD c []).getD k []).map (.i .i64)) l [.i .i64 v]))) r P B U X (Y.set c ((Y.getD c []).set k (((Y.getD c []).getD k []).set l v))):=by
  obtain⟨i0,i1,i2,⟨h0,h1,h2⟩,JO,jV⟩:=h;have vJ:i2.Nodup:=by simp only[BA,AG]at JO;grind
  obtain⟨b,bs,p,rs,q,e,g1,g2,g3,g4,g5,g6,g7,g8,g9,g10,g11,g12⟩:=h2.AF8 vJ hc hk hl;have n0:q∉i0:=by simp only[BA,AG]at JO;grind
  have n1:q∉i1:=by simp only[BA,AG]at JO;grind
  exact⟨b,bs,p,rs,q,e,g1,g2,g3,g4,g5,g6,g7,jV b (by simp[g8]),jV p (by simp[g9]),jV q (by simp[g10]),g11,λv=>⟨i0,i1,i2,⟨h0.BV λi hi=>AB _ _ (λe2=>n0 (by rw[<-e2];exact hi)),h1.BV λi hi=>AB _ _ (λe2=>n1 (by rw[<-e2];exact hi)),g12 v⟩,JO,jV⟩⟩
def LV.APR{a' m' k H' r1 W is}(h:LV a m H r P B U X Y)(hk:k<Y.length):∃b bs,B= .h b 0 Y.length/\H b=some bs/\bs.length=Y.length/\(a<=b/\b<m)/\
   (Ow H' r1 (rows W) is->is.Nodup->(∀i∈is,(i<a\/m<=i)/\a'<=i/\i<m')->H' b=some (DH bs k [r1])->(∀i,a<=i->i<m->i≠b->H' i=H i)->m<=m'->a'<=a->LV a' m' H' r P B U X (Y.set k W)):=by
 obtain⟨i0,i1,i2,⟨h0,h1,h2⟩,h3,h4⟩:=h;unfold B6 at h2;obtain⟨b,bs,js,rfl,rfl,g1,g2,g3⟩:=h2.A3F A0;refine⟨b,bs,rfl,g1,g2,h4 b B5,λho JO hb hp' PU hm ham=>?_⟩;have vJ:(b::js).Nodup:=by simp only[BA,AG]at h3;grind
 obtain⟨w1,w2,l2,l3,w3,w4,w5,w6,w7⟩:=h2.AF4 g1 A0 ho hp' (λi hi=>PU i (h4 i (by simp only[AG];exact .inr (.inr hi))).1 (h4 i (by simp only[AG];exact .inr (.inr hi))).2) vJ;have CP:∀i,i∈i0\/i∈i1->i≠b:=by
  intro i hi e;subst e;simp only[BA,C1,AG,BJ]at h3;grind
 refine⟨i0,i1,b::(l2++(is++l3)),⟨h0.BV λi hi=>PU i (h4 i (by simp[hi])).1 (h4 i (by simp[hi])).2 (CP i (.inl hi)),h1.BV λi hi=>PU i (h4 i (by simp[hi])).1 (h4 i (by simp[hi])).2 (CP i (.inr hi)),?_⟩,?_,?_⟩
 ·unfold B6;rw[D2,HK];exact w7
 ·have h5:∀i∈i0++(i1++b::js),a<=i/\i<m:=h4;simp only[BA,C1,AG,BJ]at h3 h5 w3 w5 w6 ⊢;grind
 intro i hi;simp only[AG,BJ]at hi h4 w3;grind
def LV.APS{a' m' H' r1 WR is}(h:LV a m H r P B U X Y)(ho:Ow H' r1 (ints WR) is)(JO:is.Nodup)(hb:∀i∈is,(i<a\/m<=i)/\a'<=i/\i<m')(PU:∀i,a<=i->i<m->bk r≠i+1->H' i=H i)(hr:xJ r=true)(hm:m<=m')(ham:a'<=a):LV a' m' H' r1 P B WR X Y:=by
 obtain⟨i0,i1,i2,⟨h0,h1,h2⟩,h3,h4⟩:=h;have CP:∀i,i∈i1\/i∈i2->bk r≠i+1:=by
  intro i hi e;have:i∈i0:=by
   unfold Go.Proofs.YtgknbnkmilddhaaGreat.ints at h0;rcases h0.tA _ _ rfl with ⟨rfl,_⟩|⟨rfl,_⟩|⟨q,cs,I1,rfl,rfl,_⟩
   ·cases hr
   ·cases e
   simp only[bk]at e;simp;omega
  simp only[BA,AG]at h3;grind
 refine⟨is,i1,i2,⟨ho,h1.BV λi hi=>PU i (h4 i (by simp[hi])).1 (h4 i (by simp[hi])).2 (CP i (.inl hi)),h2.BV λi hi=>PU i (h4 i (by simp[hi])).1 (h4 i (by simp[hi])).2 (CP i (.inr hi))⟩,?_,?_⟩
 ·have h5:∀i∈i0++(i1++i2),a<=i/\i<m:=h4;simp only[BA,AG]at h3 h5 ⊢;grind
 intro i hi;simp only[AG]at hi h4;grind
def LV.fz{n}(h:LV a m H r P B U X Y)(hn:n<=a):Fz H (TN n H) (.g [r,P,B]) (CI U X Y):=by
 obtain⟨i0,i1,i2,⟨h0,h1,h2⟩,h3,h4⟩:=h;have hz:∀i∈i0++(i1++i2),TN n H i=none:=λi hi=>bN (by have:=h4 i hi;omega)
 refine .g _ _ rfl λk x y hx hy=>?_
 match k,hx,hy with
 |0,hx,hy=>cases hx;cases hy;exact h0.bM λi hi=>hz i (by simp[hi])
 |1,hx,hy=>cases hx;cases hy;exact h1.bM λi hi=>hz i (by simp[hi])
 |2,hx,hy=>cases hx;cases hy;exact h2.bM λi hi=>hz i (by simp[hi])
def LV.WQ(h:LV a m H r P B U X Y):one r=true/\one P=true/\one B=true:=by
 obtain⟨i0,i1,i2,⟨h0,h1,h2⟩,h3,h4⟩:=h;exact⟨h0.slice.2.1,h1.slice.2.1,h2.slice.2.1⟩
end
def vT{cX n ops y s s1 K}(q:AW cX prog y s1 K)(e:HA ops s s1:=by intro N hN;(try simp-dsimp-implicitDefEqProofs(disch:=omega)only[go_sem,bU]);exact hN):GZ cX n ops y s K:=HF q e
end
section
def vP(W)(hW:FC W)(nx H):AC prog 123 nx H [rows W] (zK nx H (λr=>r=rows W)):=by
 refine bP ((KX W hW nx).mono λDI H' r ⟨cs,h⟩=>?_) H;obtain⟨h1,ids,h2,h3,h4⟩:=h;refine⟨rows W,?_,rfl⟩;rw[SK];exact h2.bM λi hi=>bN (h4 i hi).1
set_option maxHeartbeats 4000000 in
def nI(pr n W q)(SJ:1<=pr/\pr<=10)(hq:q<=6)(hW:Dt q W)(hn:1<=n/\n<=64):∀nx,AC prog 225 nx DD [.i .i64 pr,rows W,.i .i64 n] (λDI H' r=>∃r2,Fz H' (TN nx H') r r2/\pY 12 r2):=by
 have hWl:=hW.l
 intro nx
 refine ED AY func225 rfl AP ntmps225 results225 (λcX=>?_)
 refine QW ?_;refine sQ λN hN=>?_;refine Z7 ?_;refine(ON n hn.1 A0 _ _).CD ?_
 rintro m1 H1 r1 SF ⟨⟨fs,b1,rfl,dD,ZJ⟩,vL⟩
 have ZR:=(kF dD A0).2 hn.2
 have Mn:H1 nx=some [.nl,.nl,.nl]:=(vL nx A0).trans (AD _ _ _)
 refine OX ?_
 apply hN;refine sQ λN hN=>?_;refine Z7 ?_;refine(IM fs A0 _ _).CD ?_
 rintro m2 H2 r2 Q8 ⟨L7,rfl,Dg,l5,rfl⟩
 refine Z7 ?_
 apply hN;refine A6 λN1 CW=>BX (λG0 JM=>?_);dsimp only at JM
 have h0n:G0 nx=some [.nl,.nl,.nl]:=by rw[<-JM];simp(disch:=omega)only[AB];exact Mn
 have hL0:LC G0 (nx+1) m2 (.h L7 0 fs.length) (fs.map (.i .i64)):= .inr ⟨L7,by rw[A4],by rw[<-JM,AD,RK],A0,l5⟩
 refine QW ?_;refine AA<|AM (α:=Nat×HP×AV) (λx=>sl 102 [(0,.i .i64 pr),(1,rows W),(6,.q nx 0),(7,ints fs),(9,x.2.2),(10,.i .i64 x.1)]) (λx=>x.2.1) (λx m=>(x.1<=q/\m2<=m)/\x.2.1 nx=some [.nl,.nl,.nl]/\LC x.2.1 (nx+1) m x.2.2 ((fs++List.replicate x.1 pr).map (.i .i64))) (λx=>q-x.1) ((0,G0,.h L7 0 fs.length)) ?_ ?_ (λ_ _ h=>h) ?_
 ·exact⟨⟨B5,AI⟩,h0n,by simpa using hL0.wide (A1 _) AI⟩
 ·exact E2
 rintro⟨i,G,L⟩ m ⟨⟨hi,hm⟩,JM,hL⟩
 refine BH ?_;dsimp only at hi hm JM hL ⊢
 have pK:=hL.one
 have YC:=hL.len
 rw[A4,AH,BZ]at YC
 refine A6 λN2 DN=>sQ λN hN=>?_;simp-dsimp-implicitDefEqProofs(disch:=omega)only[go_sem,ints,CI,rows];apply hN;refine AK ?_ ?_<;>intro h1
 ·have KW:((fs++List.replicate i pr).map (AV.i .i64)).length=fs.length+i:=by rw[A4,AH,BZ]
  apply AF;apply DN;refine A6 λN3 DO=>?_;apply AA;apply rQ;simp-dsimp-implicitDefEqProofs(disch:=(first|omega|((repeat refine LC.CJ A0 ?_);assumption))) only[go_sem,CI,ints,pK,YC,KW,F2 (a:=nx+1) (b:=m) (L:=L) (cs:=(fs++List.replicate i pr).map (.i .i64))]
  apply DO;refine BX (λG3 J6=>?_);dsimp only at J6;refine lY ?_;refine BB (i+1,G3,.h (m+4+3) 0 (fs.length+(i+1))) ?_ ?_ ?_
  ·exact E2
  ·have fN:LC G3 (nx+1) (m+4+5+3) (.h (m+4+3) 0 (fs.length+(i+1))) ((fs++List.replicate (i+1) pr).map (.i .i64)):=LC.mk (by rw[<-J6];simp(disch:=omega)only[AB,AD];simp[HS]) (by rw[A4,AH,BZ]) A0 A0;have bT:G3 nx=some [.nl,.nl,.nl]:=by
    rw[<-J6];exact(AB _ _ A0).trans ((DW (λe=>by have:=hL.bd;omega)).trans ((AB _ _ A0).trans JM))
   first|exact⟨⟨AI,AI⟩,bT,fN⟩|exact⟨AI,bT,fN⟩
  exact AI
 have hiq:i=q:=A0
 obtain⟨U,iJ⟩:=EK (fs++List.replicate i pr)
 have Eg:U.length=fs.length+q:=by rw[<-iJ,AH,BZ,hiq]
 have sX:∀x∈U,-1000<=x/\x<=1000:=λx hx=>by
  rw[<-iJ]at hx;rcases AG.1 hx with h|h
  ·have:=ZJ x h;omega
  have:=(DX.1 h).2;omega
 rw[iJ]at hL
 apply AO;apply CW;refine A3D 9 L (U.map (.i .i64)) rfl hL ?_
 rw[A4]
 refine BX (λG1 K6=>?_);dsimp only at K6
 have h1n:G1 nx=some [.nl,.nl,.nl]:=by rw[<-K6];exact(DW (λe=>by have:=hL.bd;omega)).trans JM
 refine BH ?_;refine sQ λN hN=>?_;refine Z7 ?_;refine(HG U A0 _ (.cons (.refl _) .nil)).CD ?_
 intro m4 H4 r4 Xy Mo
 obtain⟨P,B,bc,rfl,YE,UE,XW,I4⟩:=QL.start (N:=12) (bx:=m+4+2) Mo A0 A0 sX A0
 refine zR YE UE ?_
 apply hN;refine QW ?_;refine A6 λN4 FD=>BX (λG2 Dj=>?_);dsimp only at Dj
 have iU:QL 12 (m+4+4) m4 (m+4+2) U P B bc (ZE U.length) (U9 U.length) G2:=by rw[<-Dj];exact I4
 have h20:G2 nx=some [.nl,.nl,.nl]:=by rw[<-Dj,AB _ _ A0];exact(XW nx A0).trans h1n
 obtain⟨bx,Mq⟩:=EK (m+4+2)
 obtain⟨lo,cZ⟩:=EK (m+4+4)
 rw[Mq,cZ]at iU
 rw[Mq]
 refine QW ?_;refine AA<|AM (α:=Nat×HP×D4) (λx=>sl 102 [(0,.i .i64 pr),(1,rows W),(6,.q nx 0),(7,ints fs),(9,ints U),(11,.q bx 0),(12,.i .i64 fs.length),(13,.i .i64 x.1)]) (λx=>x.2.1) (λx m=>(x.1<=fs.length/\m4<=m)/\x.2.1 nx=some [.nl,.nl,.nl]/\QL 12 lo m bx U P B bc x.2.2 (U9 U.length) x.2.1) (λx=>fs.length-x.1) ((0,G2,ZE U.length)) ?_ ?_ (λ_ _ h=>h) ?_
 ·exact⟨⟨B5,AI⟩,h20,iU.BV (λ_ _=>rfl) A0 AI⟩
 ·exact E2
 rintro⟨i,G,X⟩ m ⟨⟨hi,hm⟩,JM,I4⟩
 refine BH ?_;dsimp only at hi hm JM I4 ⊢
 have HX:=I4.lt
 refine A6 λN5 ID=>QW ?_;refine AK ?_ ?_<;>intro h2
 ·obtain⟨p,hPe,VO,dD,VL,hp3,NA⟩:=I4.bO (k:=i) A0;apply AF;apply ID;refine A6 λN6 OR=>AA<|C9 AY AP 9 AP ?_
  (try simp-dsimp-implicitDefEqProofs(disch:=omega)only[go_sem,BD,AR,B4,BE,AT,AS,GJ,ES,ET,ints,CI,DV,VO,dD,VL]);refine⟨_,.of (VC U.length (i+1) A0 A0),?_⟩;(try simp-dsimp-implicitDefEqProofs(disch:=omega)only[go_sem,ints,CI,VO,dD,VL])
  apply OR;refine BX (λG3 J6=>?_);dsimp only at J6;refine lY ?_;refine BB (i+1,G3,X.set i (iB U.length (i+1))) ?_ ?_ ?_
  ·exact E2
  ·have gT:QL 12 lo (m+4+10+3) bx U P B bc (X.set i (iB U.length (i+1))) (U9 U.length) G3:=by rw[<-J6];exact NA _ _ (by rw[XT];omega) A0
   have bT:G3 nx=some [.nl,.nl,.nl]:=by rw[<-J6,AB _ _ A0];exact JM
   first|exact⟨⟨AI,AI⟩,bT,gT⟩|exact⟨AI,bT,gT⟩
  exact AI
 apply AO;apply FD;refine sQ λN hN=>?_;refine Z7 ?_;refine(vP W ⟨A0,λw hw=>by have:=(hW.r w hw).1;omega⟩ _ _).CD ?_
 rintro m5 H5 r5 hm5 ⟨rfl,AA4⟩
 have gU:=I4.BV (G':=H5) (m':=m5+1) (λj hj=>AA4 j A0) A0 A0
 have h50:=(AA4 nx A0).trans JM
 refine Z7 ?_
 apply hN;refine A6 λN7 S6=>QW ?_;refine AA<|AM (α:=Nat×HP×E6×D4) (λx=>sl 102 [(0,.i .i64 pr),(1,rows W),(6,.q nx 0),(7,ints fs),(11,.q bx 0),(12,.i .i64 fs.length),(14,rows x.2.2.2),(15,.i .i64 x.1)]) (λx=>x.2.1) (λx m=>(x.1<=fs.length/\m4<=m)/\x.2.1 nx=some [.nl,.nl,.nl]/\QL 12 lo m bx U P B bc X x.2.2.1 x.2.1/\Dt q x.2.2.2) (λx=>fs.length-x.1) ((0,H5,U9 U.length,W)) ?_ ?_ (λ_ _ h=>h) ?_
 ·exact⟨⟨B5,AI⟩,h50,gU.BV (λ_ _=>rfl) A0 AI,hW⟩
 ·exact E2
 rintro⟨i,G,Y,A⟩ m ⟨⟨hi,hm⟩,JM,I4,hA⟩
 refine BH ?_;dsimp only at hi hm JM I4 hA ⊢
 refine A6 λN8 VK=>QW ?_;refine AK ?_ ?_<;>intro h3
 ·have hif:i<fs.length:=A0;have hAl:=hA.l;apply AF;apply VK;refine A6 λN9 ZW=>AA<|A6 λPf R9=>?_;refine QW ?_;refine AA<|AM (α:=Nat×HP×E6) (λx=>sl 102 [(0,.i .i64 pr),(1,rows W),(6,.q nx 0),(7,ints fs),(11,.q bx 0),(12,.i .i64 fs.length),(14,rows A),(15,.i .i64 i),(16,.i .i64 x.1)]) (λx=>x.2.1) (λx m=>(x.1<=q/\m4<=m)/\x.2.1 nx=some [.nl,.nl,.nl]/\QL 12 lo m bx U P B bc X x.2.2 x.2.1) (λx=>q-x.1) ((0,G,Y)) ?_ ?_ (λ_ _ h=>h) ?_
  ·exact⟨⟨B5,AI⟩,JM,I4.BV (λ_ _=>rfl) A0 AI⟩
  ·exact E2
  rintro⟨d,G,Y⟩ m ⟨⟨hd,hm⟩,JM,I4⟩;refine BH ?_;dsimp only at hd hm JM I4 ⊢;have HX:=I4.lt;refine A6 λXo T3=>sQ λN hN=>?_;simp-dsimp-implicitDefEqProofs(disch:=omega)only[go_sem,ints,CI,rows];apply hN;refine AK ?_ ?_<;>intro h4
  ·obtain⟨b,qq,hBe,Q5,UK,W3,gT,eV,dB,XA,sA,Sy,NA⟩:=I4.kB (k:=i) (l:=fs.length+d-i-1) A0 A0;have ek:((fs.length:Int)+d-i-1).toNat=fs.length+d-i-1:=A0;have hAd:=hA.at d;have hAr:(A.map ints).getD d .j=ints (A.getD d []):=EY A0;apply AF;apply T3;refine A6 λN12 ZL=>AA<|C9 AY AP 18 AP ?_
   (try simp-dsimp-implicitDefEqProofs(disch:=omega)only[go_sem,BD,AR,B4,BE,AT,AS,GJ,ES,ET,ints,CI,rows,DV,Q5,UK,W3,eV,dB,XA,ek,hAr]);refine⟨_,.of (NZ fs.length (A.getD d []) 0 A0 A0 A0),?_⟩;(try simp-dsimp-implicitDefEqProofs(disch:=omega)only[go_sem,ints,CI,Q5,UK,W3,eV,dB,XA,ek])
   apply ZL;refine BX (λG5 KK=>?_);dsimp only at KK;refine lY ?_;refine BB (d+1,G5,Y.set i ((Y.getD i []).set (fs.length+d-i-1) (Jc fs.length (A.getD d []) 0))) ?_ ?_ ?_
   ·exact E2
   ·have gU:QL 12 lo (m+4+19+3) bx U P B bc X (Y.set i ((Y.getD i []).set (fs.length+d-i-1) (Jc fs.length (A.getD d []) 0))) G5:=by rw[<-KK];exact NA _ _ (by rw[cO];omega) A0
    have vO:G5 nx=some [.nl,.nl,.nl]:=by rw[<-KK,AB _ _ A0];exact JM
    first|exact⟨⟨AI,AI⟩,vO,gU⟩|exact⟨AI,vO,gU⟩
   exact AI
  have Dq:=QC (p:=λx:Int=>0<=x/\x<=7) (X:=fs) (d:=0) (λx hx=>by have:=ZJ x hx;omega) A0 i;apply AO;apply R9;refine QW ?_;refine QW ?_;refine AA<|AM (α:=Nat×HP×D4) (λx=>sl 102 [(0,.i .i64 pr),(1,rows W),(6,.q nx 0),(7,ints fs),(11,.q bx 0),(12,.i .i64 fs.length),(14,rows x.2.2),(15,.i .i64 i),(17,rows A),(18,.i .i64 ((x.1:Int)+1))]) (λx=>x.2.1) (λx m=>(x.1<=10/\m4<=m)/\x.2.1 nx=some [.nl,.nl,.nl]/\QL 12 lo m bx U P B bc X Y x.2.1/\Dt q x.2.2) (λx=>10-x.1) ((0,G,A)) ?_ ?_ (λ_ _ h=>h) ?_
  ·exact⟨⟨B5,AI⟩,JM,I4.BV (λ_ _=>rfl) A0 AI,hA⟩
  ·exact E2
  rintro⟨e,G,A2⟩ m ⟨⟨he,hm⟩,JM,I4,xT⟩;refine BH ?_;dsimp only at he hm JM I4 xT ⊢;have HX:=I4.lt;refine A6 λN13 dF=>sQ λN hN=>?_;simp-dsimp-implicitDefEqProofs(disch:=omega)only[go_sem,CB,ints,CI];apply hN;refine AK ?_ ?_<;>intro h5
  ·have Hd:=xT.l;apply AF;apply dF;refine A6 λN14 p5=>?_;apply AA;apply rQ;simp-dsimp-implicitDefEqProofs(disch:=omega)only[go_sem,ints,CI,rows];rw[hWl]
   refine(kI pr SJ q A0 A2 A xT hA _ _).CD ?_;rintro m7 H7 r7 hm7 ⟨⟨A3,rfl,hA3⟩,He⟩;have fB:=I4.BV (G':=H7) (m':=m7+3) (λj hj=>He j A0) A0 A0;have h70:=(He nx A0).trans JM;refine Z7 ?_
   apply p5;refine lY ?_;refine BB (e+1,H7,A3) ?_ ?_ ?_
   ·exact E2
   ·first|exact⟨⟨AI,AI⟩,h70,fB,hA3⟩|exact⟨AI,h70,fB,hA3⟩
   exact AI
  apply AO;apply ZW;refine lY ?_;refine BB (i+1,G,Y,A2) ?_ ?_ ?_
  ·exact E2
  ·have Xu:=I4.BV (m':=m+6+3) (λ_ _=>rfl) A0 A0;first|exact⟨⟨AI,AI⟩,JM,Xu,xT⟩|exact⟨AI,JM,Xu,xT⟩
  exact AI
 have Q5:=I4.cl
 have HX:=I4.lt
 apply AO;apply S6;refine sQ λN hN=>?_;simp-dsimp-implicitDefEqProofs(disch:=omega)only[go_sem,ints,CI,Q5,JM,I4.WQ.1,I4.WQ.2];apply hN;refine BQ ?_;exact⟨_,I4.fz (λi hi=>AB _ _ A0) A0,U,_,_,rfl,I4.sh⟩
def KP(pr n W q)(SJ:1<=pr/\pr<=10)(hq:q<=6)(hW:Dt q W)(hn:1<=n/\n<=64)(nx H):AC prog 225 nx H [.i .i64 pr,rows W,.i .i64 n] (zK nx H (pY 12)):=bP (nI pr n W q SJ hq hW hn nx) H
def QL.lo{N lo lo' m bx U P B bc X Y G}(h:QL N lo m bx U P B bc X Y G)(hl:lo'<=lo)(hb:bx<lo'):QL N lo' m bx U P B bc X Y G:=⟨h.cl,h.rg.BV (λ_ _ _=>rfl) hl (A1 _),h.sh,hb⟩
def mkB{N:St->Prop}{C:Nat->HP->Nat->AV->AV->List AV->Prop}{S:Nat->HP->Nat->AV->AV->St}{G:Prop}(h1:(∀m H i P B bc,C m H i P B bc->N (S m H i P B))->G)(h2:∀m H i P B bc,C m H i P B bc->N (S m H i P B)):G:=h1 h2
def nJ{H id n U}(h:H id=some (U.map (.i .i64)))(hn:U.length=n):Vw H (.h id 0 n) (Go.Proofs.YtgknbnkmilddhaaGreat.ints U):=by
 subst hn;have:=Vw.fr (n:=U.length) h B5;exact this
set_option maxRecDepth 20000 in
set_option maxHeartbeats 4000000 in
def vQ(WR ZZ X1 X2 Y1 Y2)(h1:iD 12 WR X1 Y1)(h2:iD 12 ZZ X2 Y2):∀nx,AC prog 173 nx DD [CI WR X1 Y1,CI ZZ X2 Y2] (λDI H' r=>∃r2,Fz H' (TN nx H') r r2/\pY 24 r2):=by
 have UF:∀k l,((Y1.getD k []).getD l []).length<=72/\(X1.getD k []).length<=72:=λk l=>⟨h1.AL1 k l,h1.row k⟩
 have dJ:∀k l,((Y2.getD k []).getD l []).length<=72/\(X2.getD k []).length<=72:=λk l=>⟨h2.AL1 k l,h2.row k⟩
 obtain⟨o1,p1,c1,q1,-,-,b1⟩:=h1
 obtain⟨o2,p2,c2,q2,-,-,b2⟩:=h2
 obtain⟨U,iJ⟩:=EK (WR++ZZ)
 have Eg:U.length=WR.length+ZZ.length:=by rw[<-iJ,AH]
 have sX:∀x∈U,-1000<=x/\x<=1000:=λx hx=>by
  rw[<-iJ]at hx;rcases AG.1 hx with h|h
  ·exact b1 x h
  exact b2 x h
 intro nx
 refine ED AY func173 rfl AP ntmps173 results173 (λcX=>?_)
 refine GC ?_;refine BN 2 nx [ints WR,rows X1,B6 Y1] rfl J4 ?_
 refine BN 3 (nx+1) [ints ZZ,rows X2,B6 Y2] rfl J4 ?_
 refine BH ?_;refine A6 λN hN=>C9 AY AP 8 AP ?_
 (try simp-dsimp-implicitDefEqProofs(disch:=omega)only[go_sem,BD,AR,B4,BE,AT,AS,GJ,ES,ET,ints,CI,DV]);apply hN;refine A6 λN hN=>?_;apply mkB (N:=N)
 ·intro key;refine K5 AY AP [true,true,false,true,true,false,false,false,false] (.br 2 (.br 5 (.br 6 (.br 7 (.br 8 .nil .nil) .nil) (.br 7 (.br 6 (.br 8 .nil .nil) .nil) .nil)) (.br 7 (.br 5 (.br 6 (.br 8 .nil .nil) .nil) .nil) .nil)) (.br 7 (.br 2 (.br 5 (.br 6 (.br 8 .nil .nil) .nil) .nil) .nil) .nil)) AP ?_;refine FF ?_;refine⟨?_,?_⟩
  ·refine(IM WR A0 _ _).CD ?_;rintro m2 H2 r2 Q8 ⟨L7,rfl,Dg,l5,rfl⟩;refine Z7 ?_
   refine⟨⟨?_,?_⟩,?_⟩;all_goals
    refine(HG U A0 _ (.cons (nJ (U:=U) (by simp(disch:=omega)only[AB,AD,nH,iJ]) Eg) .nil)).CD ?_;intro m4 H4 r4 Xy Mo;obtain⟨P,B,bc,rfl,YE,UE,XW,I4⟩:=QL.start (N:=24) (bx:=nx+3+8+7) Mo A0 A0 sX A0;have h40:H4 (nx+2)=some [.nl,.nl,.nl]:=by rw[XW _ A0];simp(disch:=omega)only[AB,AD]
    first|(have hc:H4 (nx+3+8+7)=some [.nl,.nl,.nl]:=by rw[XW _ A0];simp(disch:=omega)only[AB,AD])|have hc:True:=trivial
    ((try simp-dsimp-implicitDefEqProofs(disch:=omega)only[go_sem,EZ,ints,cA,YE,UE,hc]));exact key m4 H4 L7 P B bc (And.intro (show nx+3+8+9<=m4 by omega) (And.intro h40 (And.intro (And.intro YE UE) (I4.lo (lo':=nx+3+8+9) A0 A0))))
  refine(IM WR A0 _ _).CD ?_;rintro m2 H2 r2 Q8 ⟨L7,rfl,Dg,l5,rfl⟩;refine Z7 ?_
  refine(HG U A0 _ (.cons (nJ (U:=U) (by simp(disch:=omega)only[AB,AD,nH,iJ]) Eg) .nil)).CD ?_;intro m4 H4 r4 Xy Mo;obtain⟨P,B,bc,rfl,YE,UE,XW,I4⟩:=QL.start (N:=24) (bx:=nx+3+8+7) Mo A0 A0 sX A0;have h40:H4 (nx+2)=some [.nl,.nl,.nl]:=by rw[XW _ A0];simp(disch:=omega)only[AB,AD]
  first|(have hc:H4 (nx+3+8+7)=some [.nl,.nl,.nl]:=by rw[XW _ A0];simp(disch:=omega)only[AB,AD])|have hc:True:=trivial
  (try simp-dsimp-implicitDefEqProofs(disch:=omega)only[go_sem,EZ,ints,cA,YE,UE,hc])
  exact key m4 H4 L7 P B bc (And.intro (show nx+3+8+9<=m4 by omega) (And.intro h40 (And.intro (And.intro YE UE) (I4.lo (lo':=nx+3+8+9) A0 A0))))
 intro m4 H4 L7 P B bc hC
 obtain⟨Xy,h40,⟨YE,UE⟩,I4⟩:=hC
 apply hN;refine A6 λN1 CW=>BX (λG1 K6=>?_);dsimp only at K6
 replace I4:QL 24 (nx+3+8+9) m4 (nx+3+8+7) U P B bc (ZE U.length) (U9 U.length) G1:=by rw[<-K6];exact I4
 have Df:G1 (nx+2)=some [.nl,.nl,.nl]:=by rw[<-K6,AB _ _ A0];exact h40
 obtain⟨bx,Mq⟩:=EK (nx+3+8+7)
 obtain⟨lo,cZ⟩:=EK (nx+3+8+9)
 rw[Mq,cZ]at I4
 rw[Mq]
 refine BH ?_;refine GC ?_;refine AA<|AM (α:=Nat×HP×D4×E6) (λx=>sl 116 [(2,.p 0 [ints WR,rows X1,B6 Y1]),(3,.p 0 [ints ZZ,rows X2,B6 Y2]),(4,.q (nx+2) 0),(5,.i .i64 WR.length),(6,.i .i64 ZZ.length),(7,.q bx 0),(8,.i .i64 x.1)]) (λx=>x.2.1) (λx m=>(x.1<=WR.length/\m4<=m)/\x.2.1 (nx+2)=some [.nl,.nl,.nl]/\QL 24 lo m bx U P B bc x.2.2.1 x.2.2.2 x.2.1) (λx=>WR.length-x.1) ((0,G1,ZE U.length,U9 U.length)) ?_ ?_ (λ_ _ h=>h) ?_
 ·exact⟨⟨B5,AI⟩,Df,I4.BV (λ_ _=>rfl) A0 AI⟩
 ·exact FV
 rintro⟨i,G,X,Y⟩ m ⟨⟨hi,hm⟩,JM,I4⟩
 refine BH ?_;dsimp only at hi hm JM I4 ⊢
 have HX:=I4.lt
 refine A6 λN2 DN=>GC ?_;refine AK ?_ ?_<;>intro h1
 ·obtain⟨p,hPe,VO,dD,VL,hp3,NA⟩:=I4.bO (k:=i) A0;have hX:=(UF i 0).2;have Lr:(X1.map ints).getD i .j=ints (X1.getD i []):=EY A0;apply AF;apply DN;refine A6 λN3 DO=>AA<|A6 λN hN=>?_;refine C9 AY AP 11 AP ?_
  (try simp-dsimp-implicitDefEqProofs(disch:=omega)only[go_sem,BD,AR,B4,BE,AT,AS,GJ,ES,ET,CI,rows,DV,VO,dD,VL,Lr]);refine⟨_,.of (NZ 0 (X1.getD i []) ZZ.length A0 A0 A0),?_⟩;(try simp-dsimp-implicitDefEqProofs(disch:=omega)only[go_sem,ints,CI,VO,dD,VL])
  apply hN;refine GC ?_;refine AA<|BX (λG3 J6=>?_);dsimp only at J6
  have gT:QL 24 lo (m+3+12) bx U P B bc (X.set i (Jc 0 (X1.getD i []) ZZ.length)) Y G3:=by rw[<-J6];exact NA _ _ (by rw[cO];omega) A0
  have bT:G3 (nx+2)=some [.nl,.nl,.nl]:=by rw[<-J6,AB _ _ A0];exact JM
  obtain⟨X3,hX3⟩:=EK (X.set i (Jc 0 (X1.getD i []) ZZ.length));rw[hX3]at gT;refine AM (α:=Nat×HP×E6) (λx=>sl 116 [(2,.p 0 [ints WR,rows X1,B6 Y1]),(3,.p 0 [ints ZZ,rows X2,B6 Y2]),(4,.q (nx+2) 0),(5,.i .i64 WR.length),(6,.i .i64 ZZ.length),(7,.q bx 0),(8,.i .i64 i),(9,.i .i64 x.1)]) (λx=>x.2.1) (λx m=>(x.1<=WR.length-1-i/\m4<=m)/\x.2.1 (nx+2)=some [.nl,.nl,.nl]/\QL 24 lo m bx U P B bc X3 x.2.2 x.2.1) (λx=>WR.length-1-i-x.1) ((0,G3,Y)) ?_ ?_ (λ_ _ h=>h) ?_
  ·exact⟨⟨B5,AI⟩,bT,gT.BV (λ_ _=>rfl) A0 AI⟩
  ·exact FV
  rintro⟨j,G,Y⟩ m ⟨⟨hj,hm⟩,JM,I4⟩;refine BH ?_;dsimp only at hj hm JM I4 ⊢;have HX:=I4.lt;have hgc:(Y1.map rows).getD i .j= .v (WR.length-1-i) ((Y1.getD i []).map ints):=by rw[IK A0,rows,q1 i A0]
  refine A6 λN4 FD=>sQ λN hN=>?_;simp-dsimp-implicitDefEqProofs(disch:=omega)only[go_sem,B6,CI,hgc];apply hN;refine AK ?_ ?_<;>intro h2
  ·obtain⟨b,qq,hBe,Q5,UK,W3,gT,eV,dB,XA,sA,Sy,NA⟩:=I4.kB (k:=i) (l:=j) A0 A0;have Lr:((Y1.getD i []).map ints).getD j .j=ints ((Y1.getD i []).getD j []):=EY (by rw[q1 i A0];omega);have dE:=(UF i j).1;have Em:=q1 i A0;apply AF;apply FD;refine A6 λN5 ID=>AA<|C9 AY AP 17 AP ?_
   (try simp-dsimp-implicitDefEqProofs(disch:=omega)only[go_sem,BD,AR,B4,BE,AT,AS,B6,GJ,ES,ET,CI,DV,hgc,Lr,Q5,UK,W3,eV,dB,XA]);refine⟨_,.of (NZ 0 ((Y1.getD i []).getD j []) ZZ.length A0 A0 A0),?_⟩;(try simp-dsimp-implicitDefEqProofs(disch:=omega)only[go_sem,ints,CI,Q5,UK,W3,eV,dB,XA])
   apply ID;refine BX (λG5 KK=>?_);dsimp only at KK;refine OK ?_;refine BB (j+1,G5,Y.set i ((Y.getD i []).set j (Jc 0 ((Y1.getD i []).getD j []) ZZ.length))) ?_ ?_ ?_
   ·exact FV
   ·have gU:QL 24 lo (m+8+18+3) bx U P B bc X3 (Y.set i ((Y.getD i []).set j (Jc 0 ((Y1.getD i []).getD j []) ZZ.length))) G5:=by rw[<-KK];exact NA _ _ (by rw[cO];omega) A0
    have vO:G5 (nx+2)=some [.nl,.nl,.nl]:=by rw[<-KK,AB _ _ A0];exact JM
    first|exact⟨⟨AI,AI⟩,vO,gU⟩|exact⟨AI,vO,gU⟩
   exact AI
  apply AO;apply DO;refine OK ?_;refine BB (i+1,G,X3,Y) ?_ ?_ ?_
  ·exact FV
  ·have Xu:=I4.BV (m':=m+8+3) (λ_ _=>rfl) A0 A0;first|exact⟨⟨AI,AI⟩,JM,Xu⟩|exact⟨AI,JM,Xu⟩
  exact AI
 apply AO;apply CW;refine A6 λN6 OR=>GC ?_;refine AA<|AM (α:=Nat×HP×D4×E6) (λx=>sl 116 [(3,.p 0 [ints ZZ,rows X2,B6 Y2]),(4,.q (nx+2) 0),(5,.i .i64 WR.length),(6,.i .i64 ZZ.length),(7,.q bx 0),(10,.i .i64 x.1)]) (λx=>x.2.1) (λx m=>(x.1<=ZZ.length/\m4<=m)/\x.2.1 (nx+2)=some [.nl,.nl,.nl]/\QL 24 lo m bx U P B bc x.2.2.1 x.2.2.2 x.2.1) (λx=>ZZ.length-x.1) ((0,G,X,Y)) ?_ ?_ (λ_ _ h=>h) ?_
 ·exact⟨⟨B5,AI⟩,JM,I4.BV (λ_ _=>rfl) A0 AI⟩
 ·exact FV
 rintro⟨i,G,X,Y⟩ m ⟨⟨hi,hm⟩,JM,I4⟩
 refine BH ?_;dsimp only at hi hm JM I4 ⊢
 have HX:=I4.lt
 refine A6 λN7 S6=>GC ?_;refine AK ?_ ?_<;>intro h3
 ·obtain⟨p,hPe,VO,dD,VL,hp3,NA⟩:=I4.bO (k:=WR.length+i) A0;have hX:=(dJ i 0).2;have ek:((WR.length:Int)+i).toNat=WR.length+i:=A0;have Lr:(X2.map ints).getD i .j=ints (X2.getD i []):=EY A0;apply AF;apply S6;refine A6 λN8 VK=>AA<|A6 λN hN=>?_;refine C9 AY AP 13 AP ?_
  (try simp-dsimp-implicitDefEqProofs(disch:=omega)only[go_sem,BD,AR,B4,BE,AT,AS,GJ,ES,ET,CI,rows,DV,VO,dD,VL,Lr,ek]);refine⟨_,.of (NZ WR.length (X2.getD i []) 0 A0 A0 A0),?_⟩;(try simp-dsimp-implicitDefEqProofs(disch:=omega)only[go_sem,ints,CI,VO,dD,VL,ek])
  apply hN;refine GC ?_;refine AA<|BX (λG3 J6=>?_);dsimp only at J6
  have gT:QL 24 lo (m+3+14) bx U P B bc (X.set (WR.length+i) (Jc WR.length (X2.getD i []) 0)) Y G3:=by rw[<-J6];exact NA _ _ (by rw[cO];omega) A0
  have bT:G3 (nx+2)=some [.nl,.nl,.nl]:=by rw[<-J6,AB _ _ A0];exact JM
  obtain⟨X3,hX3⟩:=EK (X.set (WR.length+i) (Jc WR.length (X2.getD i []) 0));rw[hX3]at gT;refine AM (α:=Nat×HP×E6) (λx=>sl 116 [(3,.p 0 [ints ZZ,rows X2,B6 Y2]),(4,.q (nx+2) 0),(5,.i .i64 WR.length),(6,.i .i64 ZZ.length),(7,.q bx 0),(10,.i .i64 i),(11,.i .i64 x.1)]) (λx=>x.2.1) (λx m=>(x.1<=ZZ.length-1-i/\m4<=m)/\x.2.1 (nx+2)=some [.nl,.nl,.nl]/\QL 24 lo m bx U P B bc X3 x.2.2 x.2.1) (λx=>ZZ.length-1-i-x.1) ((0,G3,Y)) ?_ ?_ (λ_ _ h=>h) ?_
  ·exact⟨⟨B5,AI⟩,bT,gT.BV (λ_ _=>rfl) A0 AI⟩
  ·exact FV
  rintro⟨j,G,Y⟩ m ⟨⟨hj,hm⟩,JM,I4⟩;refine BH ?_;dsimp only at hj hm JM I4 ⊢;have HX:=I4.lt;have hgc:(Y2.map rows).getD i .j= .v (ZZ.length-1-i) ((Y2.getD i []).map ints):=by rw[IK A0,rows,q2 i A0]
  refine A6 λN9 ZW=>sQ λN hN=>?_;simp-dsimp-implicitDefEqProofs(disch:=omega)only[go_sem,B6,CI,hgc];apply hN;refine AK ?_ ?_<;>intro h4
  ·obtain⟨b,qq,hBe,Q5,UK,W3,gT,eV,dB,XA,sA,Sy,NA⟩:=I4.kB (k:=WR.length+i) (l:=j) A0 A0;have Lr:((Y2.getD i []).map ints).getD j .j=ints ((Y2.getD i []).getD j []):=EY (by rw[q2 i A0];omega);have ek:((WR.length:Int)+i).toNat=WR.length+i:=A0;have dE:=(dJ i j).1;have Em:=q2 i A0;apply AF;apply ZW;refine A6 λPf R9=>AA<|C9 AY AP 19 AP ?_
   (try simp-dsimp-implicitDefEqProofs(disch:=omega)only[go_sem,BD,AR,B4,BE,AT,AS,B6,GJ,ES,ET,CI,DV,hgc,Lr,Q5,UK,W3,eV,dB,XA,ek]);refine⟨_,.of (NZ WR.length ((Y2.getD i []).getD j []) 0 A0 A0 A0),?_⟩;(try simp-dsimp-implicitDefEqProofs(disch:=omega)only[go_sem,ints,CI,Q5,UK,W3,eV,dB,XA,ek])
   apply R9;refine BX (λG5 KK=>?_);dsimp only at KK;refine OK ?_;refine BB (j+1,G5,Y.set (WR.length+i) ((Y.getD (WR.length+i) []).set j (Jc WR.length ((Y2.getD i []).getD j []) 0))) ?_ ?_ ?_
   ·exact FV
   ·have gU:QL 24 lo (m+8+20+3) bx U P B bc X3 (Y.set (WR.length+i) ((Y.getD (WR.length+i) []).set j (Jc WR.length ((Y2.getD i []).getD j []) 0))) G5:=by rw[<-KK];exact NA _ _ (by rw[cO];omega) A0
    have vO:G5 (nx+2)=some [.nl,.nl,.nl]:=by rw[<-KK,AB _ _ A0];exact JM
    first|exact⟨⟨AI,AI⟩,vO,gU⟩|exact⟨AI,vO,gU⟩
   exact AI
  apply AO;apply VK;refine OK ?_;refine BB (i+1,G,X3,Y) ?_ ?_ ?_
  ·exact FV
  ·have Xu:=I4.BV (m':=m+8+3) (λ_ _=>rfl) A0 A0;first|exact⟨⟨AI,AI⟩,JM,Xu⟩|exact⟨AI,JM,Xu⟩
  exact AI
 have Q5:=I4.cl
 have HX:=I4.lt
 apply AO;apply OR;refine sQ λN hN=>?_;simp-dsimp-implicitDefEqProofs(disch:=omega)only[go_sem,CI,Q5,JM,I4.WQ.1,I4.WQ.2];apply hN;refine BQ ?_;exact⟨_,I4.fz (λi hi=>AB _ _ A0) A0,U,_,_,rfl,I4.sh⟩
def vR(WR ZZ X1 X2 Y1 Y2)(h1:iD 12 WR X1 Y1)(h2:iD 12 ZZ X2 Y2)(nx H):AC prog 173 nx H [CI WR X1 Y1,CI ZZ X2 Y2] (zK nx H (pY 24)):=bP (vQ WR ZZ X1 X2 Y1 Y2 h1 h2 nx) H
end
section
def bU(bs:C2):AV:= .v bs.length (bs.map (.i .u8))
def A80(n:Int):Prop:=0<=n/\n<=255
def nK(bs:C2):Prop:=bs.length<=9223372036854775807/\∀n∈bs,A80 n
section
variable{T:Type}{enc:TypeId×Value->T}{P:Program}{w:World}{sp:Nat->Bool}{held:Bool}
def AL7{t fuel v x}(ht:P.underlying t=some (.int .u8))(h:DataW.trod enc P w 0 sp held fuel t [v]=some x):∃n:Int,R noL w noM (.i .u8 n) v/\A80 n:=by
 cases fuel with
 |zero=>cases h
 | succ fuel=>
   obtain⟨n,h1,_,h2⟩:=DataW.trod_int ht h;simp only[MD,and_true]at h1;subst h1;refine⟨n,.i _ _,?_⟩;simpa[A80,Lit.wf,IntKind.min,IntKind.max,IntKind.signed,IntKind.bits]using h2
def A3H{t e fuel v x}(ht:P.underlying t=some (.slice e))(he:P.underlying e=some (.int .u8))(hc:P.cellsOf e=1)(h:DataW.trod enc P w 0 sp held fuel t [v]=some x):
    ∃xs:C2,R noL w noM (bU xs) v/\nK xs:=by
  obtain⟨xs,h1,h2,h3⟩:=Zi (f:=AV.i .u8) (ok:=A80) ht hc (λn u y hy=>AL7 he hy) h;exact⟨xs,h1,by simpa[maxLen]using h2,h3⟩
end
def A3I{bs:C2}{k:Nat}(h:k<bs.length):(bs.map (AV.i .u8)).getD k .j= .i .u8 (bs.getD k 0):=by simp[h]
def nK.get{bs}(h:nK bs){k}(hk:k<bs.length):0<=bs.getD k 0/\bs.getD k 0<=255:=by
 rw[A5,A9 hk];exact h.2 _ (BK hk)
def srB(bs:C2)(a s:Int):List AV:=[bU bs,.i .i64 a,.i .i64 s]
structure A81(bs:C2)(a s:Int):Prop where
 n:bs.length<=4096
 v:∀k,k<bs.length->0<=bs.getD k 0/\bs.getD k 0<=255
 a0:0<=a
 a1:a<=bs.length
 s0:0<=s
 s1:s<2147483647
def APT(bs:C2)(DP:Nat)(n:Int)(H:HP):Nat->HP->AV->Prop:=λ_ H' r=>∃x a' s',r= .i .i64 x/\(0<=x/\(x<n\/x=0))/\A81 bs a' s'/\H'=CJ H DP (some (srB bs a' s'))
def AF9{H i c}(h:H i=some c):CJ H i (some c)=H:=by
 funext j
 by_cases e:j=i
 ·subst e;rw[AD,h]
 rw[AB _ _ e]
def rS{x n:Int}(h:0<=x)(hn:1<n):0<=x.tmod n/\(x.tmod n<n\/x.tmod n=0):=by
 rw[CZ h];exact⟨DK _ A0,.inl (DR _ A0)⟩
def vS(bs a s)(ho:A81 bs a s)(n)(hn:n<=1000000000)(nx H DP)(hH:H DP=some (srB bs a s)):AC prog 28 nx H [.q DP 0,.i .i64 n] (APT bs DP n H):=by
 obtain⟨o1,o2,o3,o4,o5,o6⟩:=id ho
 have PF:=hH
 unfold srB bU at PF
 refine CF AY func28 rfl AP ntmps28 results28 (λGM cX=>?_)
 refine IZ PF ?_;refine A6 λN1 CW=>IZ PF ?_;refine AK ?_ ?_<;>intro h1
 ·refine IZ PF ?_;refine BQ ?_;exact⟨_,λ_ _ h=>h,0,a,s,rfl,⟨A0,.inr rfl⟩,ho,(AF9 hH).symm⟩
 apply AF;apply CW;refine IZ PF ?_;have hsr:0<=(s*48271+71).tmod 2147483647/\(s*48271+71).tmod 2147483647<2147483647:=by
  rw[CZ A0];omega
 obtain⟨s2,iN⟩:=EK ((s*48271+71).tmod 2147483647)
 rw[iN]at hsr ⊢
 have hdr:0<=s2.tdiv 47/\s2.tdiv 47<=2147483647:=by
  rw[EC hsr.1];omega
 refine IZ PF ?_;refine A6 λN2 DN=>?_;obtain⟨x0,cH⟩:=EK (s2.tdiv 47)
 rw[cH]at hdr ⊢
 refine A6 λN hN=>C9 AY AP 10 AP ?_
 (try simp-dsimp-implicitDefEqProofs(disch:=omega)only[go_sem,BD,AR,B4,BE,AT,AS,GJ,ES,ET,DV,PF]);apply hN;refine AK ?_ ?_<;>intro h2
 ·have hb:=o2 a.toNat A0;refine A6 λN hN=>C9 AY AP 14 AP ?_
  (try simp-dsimp-implicitDefEqProofs(disch:=omega)only[go_sem,BD,AR,B4,BE,AT,AS,A3I,GJ,ES,ET,DV,PF]);apply hN;refine IZ PF ?_;refine sQ λN hN=>?_;refine eK PF ?_;refine J5.mk' (λh3=>?_) (λh3=>?_)
  ·try simp only[cn]at h3
   have l8:(a+1-1).toNat=a.toNat:=A0;refine eK PF ?_
   apply hN;refine AK ?_ ?_<;>intro h4
   ·refine C9 AY AP 13 AP ?_;(try simp-dsimp-implicitDefEqProofs(disch:=omega)only[go_sem,BD,AR,B4,BE,AT,AS,A3I,GJ,ES,ET,DV,PF,l8]);apply DN;refine IZ PF ?_;refine BQ ?_;exact⟨_,λ_ _ h=>h,_,a+1,s2,rfl,rS A0 A0,⟨o1,o2,A0,A0,A0,A0⟩,rfl⟩
   apply AF;apply DN;refine IZ PF ?_;refine BQ ?_;exact⟨_,λ_ _ h=>h,_,a+1,s2,rfl,rS A0 A0,⟨o1,o2,A0,A0,A0,A0⟩,rfl⟩
  try simp only[cn]at h3
  refine eK PF ?_
  apply hN;refine DJ rfl ?_;apply AF;apply DN;refine IZ PF ?_;refine BQ ?_;exact⟨_,λ_ _ h=>h,_,a+1,s2,rfl,rS A0 A0,⟨o1,o2,A0,A0,A0,A0⟩,rfl⟩
 apply AF;apply DN;refine IZ PF ?_;refine BQ ?_;exact⟨_,λ_ _ h=>h,_,a,s2,rfl,rS A0 A0,⟨o1,o2,A0,A0,A0,A0⟩,rfl⟩
def vU(bs)(hb:nK bs)(hn:bs.length<=4096)(nx):AC prog 26 nx DD [bU bs] (λDI H' r=>∃id a s,r= .q id 0/\nx<=id/\id<DI/\A81 bs a s/\H' id=some (srB bs a s)):=by
 refine CF AY func26 rfl AP ntmps26 results26 (λGM cX=>?_)
 refine vT ?_;refine vT ?_;refine A6 λN1 CW=>vT ?_;refine AA<|AM (α:=Nat×Int) (λx=>sl 34 [(0,bU bs),(3,.q (nx+1+2) 0),(4,.i .i64 x.1)]) (λx=>CJ DD (nx+1+2) (some (srB bs 0 x.2))) (λx m=>(x.1<=bs.length/\nx+3<m)/\(0<=x.2/\x.2<2147483647)) (λx=>bs.length-x.1) ((0,76001)) ?_ ?_ (by exact Le.refl _) ?_
 ·exact⟨⟨AE _,AI⟩,HT⟩
 ·simp(disch:=omega) [EJ,EN,sl,bU]<;>omega
 rintro⟨k,s⟩ m ⟨⟨hk,hm⟩,hs⟩
 dsimp only at hk hm hs ⊢
 simp only[bU,srB];refine BH ?_;refine A6 λN2 DN=>sQ λN hN=>?_;(try simp-dsimp-implicitDefEqProofs(disch:=omega)only[go_sem,bU]);refine J5.mk' (λh1=>?_) (λh1=>?_)
 ·try simp only[cn]at h1
  have Od:=hb.get (k:=k) A0;have hsr:0<=(s*71+bs.getD k 0).tmod 2147483647/\(s*71+bs.getD k 0).tmod 2147483647<2147483647:=by
   rw[CZ A0];omega
  (try simp-dsimp-implicitDefEqProofs(disch:=omega)only[go_sem,bU])
  apply hN;refine AK ?_ ?_<;>intro h2
  ·apply AF;apply DN;refine A6 λN3 DO=>AA<|C9 AY AP 15 AP ?_
   (try simp-dsimp-implicitDefEqProofs(disch:=omega)only[go_sem,BD,AR,B4,BE,AT,AS,bU,A3I,GJ,ES,ET,DV]);apply DO;apply rQ;simp-dsimp-implicitDefEqProofs(disch:=omega)only[go_sem,bU];refine BB (k+1,(s*71+bs.getD k 0).tmod 2147483647) ?_ ?_ ?_
   ·simp(disch:=omega) [EJ,EN,sl,bU]<;>omega
   ·(try dsimp only);omega
   exact AI
  apply AO;apply CW;refine vT ?_;refine BQ ?_;exact⟨_,λ_ _ h=>h,nx+1+2,0,s,rfl,A0,A0,⟨hn,λk hk=>hb.get hk,A0,A0,hs.1,hs.2⟩,AD _ _ _⟩
 try simp only[cn]at h1
 (try simp-dsimp-implicitDefEqProofs(disch:=omega)only[go_sem,bU])
 apply hN;refine DJ rfl ?_;apply AO;apply CW;refine vT ?_;refine BQ ?_;exact⟨_,λ_ _ h=>h,nx+1+2,0,s,rfl,A0,A0,⟨hn,λk hk=>hb.get hk,A0,A0,hs.1,hs.2⟩,AD _ _ _⟩
end
section
def AFA(x):(∀z∈ [AV.s x],one z=true)=True:=by simp[one]
attribute [go_sem] AFA
def strs(xs:List ByteArray):AV:= .v xs.length (xs.map .s)
def A82(xs):NR (strs xs):= .v _ _ λk x hk=>by
 rw[BF]at hk;obtain⟨y,_,rfl⟩:=CG.1 hk;exact .s _
def ltr(l:Int):Int:=if l>0 then IntKind.u8.wrap (IntKind.i64.wrap (IntKind.i64.wrap (97+l)-1))else IntKind.u8.wrap (IntKind.i64.wrap (IntKind.i64.wrap (65-l)-1))
def Mr(w:C2):ByteArray:=if w=[]then ⟨#[49]⟩else strOfNums (w.map ltr)
def vV(w):(Mr w).size<=w.length+1:=by
 unfold Mr;split
 ·show 1<=_;omega
 rw[strOfNums_size,A4];omega
def Hg{w:C2}{k:Nat}(h:k<w.length):(w.map ltr).take (k+1)=(w.map ltr).take k++[ltr (w.getD k 0)]:=by
 rw[B7 (by simpa using h)];simp[h]
def AL8{α β:Type}(f:α->β)(K:List α):(K.map f).take K.length=K.map f:=by
 have h:=B2 (l:=K.map f);rwa [A4]at h
def TQ(w)(hw:w.length<=1048576):DZ prog 282 [ints w] (.s (Mr w)):=by
 refine BI AY func282 rfl AP ntmps282 results282 (.s _) (λnx cX=>?_)
 refine EU ?_;refine A6 λN1 CW=>EU ?_;refine AK ?_ ?_<;>intro h1
 ·refine EU ?_;refine BQ ?_;rw[Mr,if_pos (AX.1 A0)]
 apply AF;apply CW;refine EU ?_;refine A6 λN2 DN=>EU ?_;refine AA<|AM (α:=Nat×Nat×C2) (λx=>sl 42 [(0,ints w),(3,.h x.2.1 0 x.2.2.length),(4,.i .i64 x.1)]) (λx=>CJ DD x.2.1 (some (x.2.2.map (.i .u8)))) (λx m=>(x.1<=w.length/\x.2.1<m)/\x.2.2=(w.map ltr).take x.1) (λx=>w.length-x.1) ((0,nx+4,[])) ?_ ?_ (by intro d cs hd;simp only[CJ,DD,BU]at hd ⊢;grind) ?_
 ·exact⟨⟨A0,AI⟩,B5⟩
 ·simp(disch:=omega) [EJ,EN,sl,DV,ints,rows,B6,ints,CB,DV]<;>omega
 rintro⟨k,id,K⟩ m ⟨⟨hk,GF⟩,hK⟩
 dsimp only at hk GF hK ⊢
 have Is:K.length=k:=by rw[hK,B1,A4];omega
 refine A6 λN3 DO=>EU ?_;refine AK ?_ ?_<;>intro h2
 ·apply AF;apply DO;refine A6 λN4 FD=>AA<|EU ?_;refine AK ?_ ?_<;>intro h3
  ·have h3':w.getD k 0>0:=A0;refine LG ?_;apply FD;apply rQ;simp-dsimp-implicitDefEqProofs(disch:=omega)only[go_sem,ints,CB];skip;refine⟨(k+1,m+4+5+9,K++[ltr (w.getD k 0)]),?_,by intro d cs hd;simp only[CJ,DD,KD,AZ,BR,BU,ltr,if_pos h3']at hd ⊢;grind,?_,?_⟩
   ·simp(disch:=omega) [EJ,EN,sl,DV,ints,rows,B6,ints,CB,DV]<;>omega
   ·exact⟨⟨A0,AI⟩,by simp only[];rw[Hg A0,hK]⟩
   exact AI
  have h3':¬w.getD k 0>0:=A0;refine LG ?_;apply FD;apply rQ;simp-dsimp-implicitDefEqProofs(disch:=omega)only[go_sem,ints,CB];skip;refine⟨(k+1,m+4+5+9,K++[ltr (w.getD k 0)]),?_,by intro d cs hd;simp only[CJ,DD,KD,AZ,BR,BU,ltr,if_neg h3']at hd ⊢;grind,?_,?_⟩
  ·simp(disch:=omega) [EJ,EN,sl,DV,ints,rows,B6,ints,CB,DV]<;>omega
  ·exact⟨⟨A0,AI⟩,by simp only[];rw[Hg A0,hK]⟩
  exact AI
 apply AO;apply DN;refine sQ λN hN=>?_;simp-dsimp-implicitDefEqProofs(disch:=omega)only[go_sem,Nu,CB,ints,AL8];apply hN;refine BQ ?_;have uM:w≠ []:=by rintro rfl;simp at h1
 have YO:K=w.map ltr:=by rw[hK,show k=(w.map ltr).length by rw[A4];omega,B2]
 rw[Mr,if_neg uM,YO]
def dg(n:Int):ByteArray:=⟨(Lib.decDigits n.toNat).toArray⟩
def AL9{n}(h0:0<=n)(h1:n<10):strOfNums [IntKind.u8.wrap (48+n)]=dg n:=by
 have h:n=0\/n=1\/n=2\/n=3\/n=4\/n=5\/n=6\/n=7\/n=8\/n=9:=A0;rcases h with rfl|rfl|rfl|rfl|rfl|rfl|rfl|rfl|rfl|rfl<;>(unfold dg Lib.decDigits;rfl)
def Ch{n}(h0:0<=n)(h1:n<10):(dg n).size=1:=by rw[<-AL9 h0 h1,strOfNums_size];rfl
def S1(n)(h0:0<=n)(hn:n<10):DZ prog 280 [.i .i64 n] (.s (dg n)):=by
 refine BI AY func280 rfl AP ntmps280 results280 (.s _) (λnx cX=>?_)
 refine CT ?_;refine A6 λN1 CW=>CT ?_;refine AK ?_ ?_<;>intro h1
 ·refine sQ λN hN=>?_;simp-dsimp-implicitDefEqProofs(disch:=omega)only[go_sem,BR,BU,Js];apply hN;refine BQ ?_;rw[<-AL9 h0 hn]
 exfalso;omega
end
section
def ib(c):∀l:List UInt8,(l.count c=0/\Lib.indexByte l c= -1)\/∃m:Nat,Lib.indexByte l c=m/\m<l.length/\l.count c=1+(l.drop (m+1)).count c:=by
 intro l;induction l with
 |nil=>exact .inl ⟨rfl,rfl⟩
 | cons b l ih=>
   by_cases hb:b=c
   ·subst hb;exact .inr ⟨0,by simp[Lib.indexByte],B5,by simp;omega⟩
   have CP:(b==c)=false:=by simpa using hb
   have hc:(b::l).count c=l.count c:=PM hb;rcases ih with ⟨h1,h2⟩|⟨m,h1,h2,h3⟩
   ·exact .inl ⟨by rw[hc,h1],by simp[Lib.indexByte,CP,h2]⟩
   refine .inr ⟨m+1,?_,by simpa using h2,by rw[hc,h3];rfl⟩;have:¬((m:Int)= -1):=A0;simp[Lib.indexByte,CP,h1,this]
def iR(c:UInt8)(s:ByteArray):Nat:=s.data.toList.count c
def cutAt(c:UInt8)(s:ByteArray):Nat:=(Lib.indexByte s.data.toList c).toNat
def xW(c:UInt8):Nat->ByteArray->ByteArray
 |0,s=>s
 |k+1,s=>(xW c k s).extract (cutAt c (xW c k s)+1) (xW c k s).size
def Ms(c:UInt8):Nat->ByteArray->List ByteArray
 |0,_=>[]
 |k+1,s=>Ms c k s++[(xW c k s).extract 0 (cutAt c (xW c k s))]
def Yc(c:UInt8)(s:ByteArray):List ByteArray:=Ms c (iR c s) s++[xW c (iR c s) s]
def Te(c s):∀k,(Ms c k s).length=k:=by
 intro k;induction k with
 |zero=>rfl
 |succ k ih=>rw[Ms,AH,ih];rfl
def zA(s:ByteArray)(a b:Nat):(s.extract a b).data.toList=(s.data.toList.drop a).take (b-a):=by
 rw[ByteArray.data_extract,Array.toList_extract]
def Th{c s}(h:0<iR c s):Lib.indexByte s.data.toList c=(cutAt c s:Int)/\cutAt c s<s.size/\iR c s=1+iR c (s.extract (cutAt c s+1) s.size):=by
 rcases ib c s.data.toList with ⟨h1,_⟩|⟨m,h1,h2,h3⟩
 ·unfold iR at h;omega
 have hm:cutAt c s=m:=by unfold cutAt;rw[h1];rfl
 rw[hm];have TH:s.data.toList.length=s.size:=by rw[EP];rfl
 refine⟨h1,A0,?_⟩;unfold iR;rw[zA,AJ (by rw[CC];omega)];exact h3
def Ti(c s):∀k,k<=iR c s->iR c (xW c k s)=iR c s-k:=by
 intro k;induction k with
 |zero=>intro _;rfl
 | succ k ih=>
   intro hk;have h1:=ih A0;have h2:=(Th (c:=c) (s:=xW c k s) A0).2.2;rw[xW];omega
def A3J(c s):iR c s<=s.size:=by
 have:=List.count_le_length (a:=c) (l:=s.data.toList);have TH:s.data.toList.length=s.size:=by rw[EP];rfl
 unfold iR;omega
def Tj(c s):(Yc c s).length=iR c s+1:=by
 unfold Yc;rw[AH,Te];rfl
def Ci{H id n cs}(hn:cs.length=n):Vw (CJ H id (some cs)) (.h id 0 n) (.v n cs):=
 .h id 0 n cs cs (AD _ _ _) A0 hn λk x y hx hy=>by rw[BS]at hx;rw[hx]at hy;cases hy;exact .refl _
def Hh(c s):∀k,xW c (k+1) s=xW c k (s.extract (cutAt c s+1) s.size):=by
 intro k;induction k with
 |zero=>rfl
 |succ k ih=>rw[xW,ih,xW]
def A3K(c s):∀k,Ms c (k+1) s=s.extract 0 (cutAt c s)::Ms c k (s.extract (cutAt c s+1) s.size):=by
 intro k;induction k with
 |zero=>rfl
 |succ k ih=>rw[Ms,ih,Hh,Ms];rfl
def A3L{c s}(h:0<iR c s):Yc c s=s.extract 0 (cutAt c s)::Yc c (s.extract (cutAt c s+1) s.size):=by
 have h2:=(Th h).2.2;obtain⟨n,hn⟩:∃n,iR c s=n+1:=⟨iR c s-1,A0⟩;have h3:iR c (s.extract (cutAt c s+1) s.size)=n:=A0;unfold Yc;rw[hn,h3,A3K,Hh];rfl
def A3M{c s}(h:iR c s=0):Yc c s=[s]:=by
 unfold Yc;rw[h];rfl
def xX{c}(ys):∀xs:List UInt8,xs.count c=0->Lib.indexByte (xs++c::ys) c=xs.length:=by
 intro xs;induction xs with
 |nil=>intro _;simp[Lib.indexByte]
 | cons x xs ih=>
   intro h;rw[PZ]at h;have hx:(x==c)=false:=by
    cases hq:x==c with
    |false=>rfl
    |true=>rw[hq]at h;simp at h
   have h1:=ih A0;have:¬((xs.length:Int)= -1):=A0;simp[Lib.indexByte,hx,h1,this]
def J8(l:List UInt8):ByteArray:=⟨l.toArray⟩
def A3N(l):(J8 l).data.toList=l:=rfl
def vW(s):J8 s.data.toList=s:=by cases s;simp[J8]
def Tk(l a b):(J8 l).extract a b=J8 ((l.drop a).take (b-a)):=by
 rw[<-vW ((J8 l).extract a b),zA];rfl
def M8(l):(J8 l).size=l.length:=by
 show l.toArray.size=l.length;simp
def Dx(c:UInt8):List (List UInt8)->List UInt8
 |[]=>[]
 |[x]=>x
 |x::y::xs=>x++c::Dx c (y::xs)
def A83(c):∀ps:List (List UInt8),ps≠ []->(∀p,p∈ps->p.count c=0)->Yc c (J8 (Dx c ps))=ps.map J8:=by
 intro ps;induction ps with
 |nil=>intro h;exact absurd rfl h
 | cons x xs ih=>
   intro _ hp;have hx:=hp x (CA ..);cases xs with
   |nil=>rw[Dx,A3M (by unfold iR;rw[A3N];exact hx)];rfl
   | cons y xs=>
     have hi:=xX (c:=c) (Dx c (y::xs)) x hx;have hc:cutAt c (J8 (Dx c (x::y::xs)))=x.length:=by
      unfold cutAt;rw[A3N,Dx,hi];rfl
     have s5:0<iR c (J8 (Dx c (x::y::xs))):=by
      unfold iR;rw[A3N,Dx,IX,PZ];simp;omega
     rw[A3L s5,hc,Tk,Tk,M8,B4,EB,Dx,List.take_left,BR,<-ih B5 (λp h=>hp p (C3 _ h))];congr 2
     rw[show x++c::Dx c (y::xs)=(x++[c])++Dx c (y::xs) by simp,show x.length+1=(x++[c]).length by simp,List.drop_left];congr 1
     exact AJ (by simp;omega)
def toL_eq{a b}:(J8 a).toList=(J8 b).toList↔a=b:=by
 rw[ByteArray.toList_eq,ByteArray.toList_eq];exact Iff.rfl
def Hi(ps:List (List UInt8)){k}(h:k<ps.length):((ps.map J8).map AV.s).getD k .j= .s (J8 (ps.getD k [])):=by simp[h]
def vX{H:HP}{id:Nat}{c:List AV}(h:H id=some c):∀i cs,CJ DD id (some c) i=some cs->H i=some cs:=by
 intro i cs hd;simp only[CJ]at hd;split at hd
 ·rename_i e;subst e;rw[h];exact hd
 cases hd
def kO:Int.toNat 1=1:=rfl
def kP:Int.toNat 2=2:=rfl
end
section
def kQ(c:UInt8):List UInt8->List (List UInt8)
 |[]=>[[]]
 | b::l=>if b=c then []::kQ c l else match kQ c l with
   |x::xs=>(b::x)::xs
   |[]=>[[b]]
def Cj(c):∀l,kQ c l≠ []:=by
 intro l;cases l with
 |nil=>simp[kQ]
 | cons b l=>
   rw[kQ];split
   ·simp
   split<;>simp
def Ck(c):∀l,Dx c (kQ c l)=l:=by
 intro l;induction l with
 |nil=>rfl
 | cons b l ih=>
   rw[kQ];split
   · rename_i h;subst h;cases hs:kQ b l with
     |nil=>exact absurd hs (Cj _ _)
     |cons x xs=>rw[hs]at ih;rw[Dx,ih];rfl
   cases hs:kQ c l with
   |nil=>exact absurd hs (Cj _ _)
   | cons x xs=>
     rw[hs]at ih;simp only
     cases xs with
     |nil=>rw[Dx]at ih ⊢;rw[ih]
     |cons y ys=>rw[Dx]at ih ⊢;rw[HC,ih]
def A84(c):∀l,∀p,p∈kQ c l->p.count c=0:=by
 intro l;induction l with
 |nil=>intro p hp;simp[kQ]at hp;subst hp;rfl
 | cons b l ih=>
   intro p hp;rw[kQ]at hp;split at hp
   · rcases BJ.1 hp with rfl|hp
     ·rfl
     exact ih p hp
   rename_i hb;cases hs:kQ c l with
   |nil=>exact absurd hs (Cj _ _)
   | cons x xs=>
     rw[hs]at hp ih;simp only at hp
     rcases BJ.1 hp with rfl|hp
     ·rw[PM hb];exact ih x (CA ..)
     exact ih p (C3 _ hp)
def Tl(c l):Yc c (J8 l)=(kQ c l).map J8:=by
 have h:=A83 c (kQ c l) (Cj c l) (A84 c l);rwa [Ck]at h
def ALA{c}:∀{l:List UInt8} {m:Nat},l[m]? =some c->(∀j,j<m->l[j]?≠some c)->Lib.indexByte l c=m:=by
 intro l;induction l with
 |nil=>intro m h;simp at h
 | cons b l ih=>
   intro m h hn;cases m with
   |zero=>
    simp only[DT,E4]at h;subst h;simp[Lib.indexByte]
   |succ m=>
    have hb:(b==c)=false:=by
     have:=hn 0 A0;simpa using this
    have h1:=ih (m:=m) (by simpa using h) (λj hj=>by have:=hn (j+1) A0;simpa using this);have:¬((m:Int)= -1):=A0;simp[Lib.indexByte,hb,h1,this]
def A3O{c}:∀{l:List UInt8},(∀j,j<l.length->l[j]?≠some c)->l.count c=0:=by
 intro l h;rw[List.count_eq_zero];intro hm;obtain⟨j,hj,e⟩:=FI.1 hm;exact h j hj (by rw[A9 hj,e])
def Scan(c:UInt8)(s:ByteArray)(i k f:Nat):Prop:=
 i<=s.size/\f<=i/\k<=iR c s/\(xW c k s).data.toList=s.data.toList.drop f/\∀j,f<=j->j<i->s.data.toList[j]?≠some c
def szl(s:ByteArray):s.data.toList.length=s.size:=by rw[EP];rfl
def toL_inj{a b:ByteArray}(h:a.data.toList=b.data.toList):a=b:=by
 rw[<-vW a,<-vW b,h]
def Scan.start(c s):Scan c s 0 0 0:=⟨A0,A0,A0,by simp[xW],by intro j _ h;omega⟩
def Scan.no{c s i k f}(h:Scan c s i k f)(hi:i<s.size)(hb:s.data.toList[i]?≠some c):Scan c s (i+1) k f:=by
 obtain⟨h1,h2,h3,h4,h5⟩:=h;refine⟨A0,A0,h3,h4,λj hj dA=>?_⟩;by_cases e:j=i
 ·subst e;exact hb
 exact h5 j hj A0
def Scan.yes{c s i k f}(h:Scan c s i k f)(hb:s.data.toList[i]? =some c):Scan c s (i+1) (k+1) (i+1)/\Ms c (k+1) s=Ms c k s++[s.extract f i]:=by
 obtain⟨h1,h2,h3,h4,h5⟩:=h;have HX:i<s.size:=by
  have:=(AL.1 hb).1;rw[szl]at this;exact this
 have hib:Lib.indexByte (xW c k s).data.toList c=((i-f:Nat):Int):=by
  rw[h4];refine ALA (by rw[CK,show f+(i-f)=i by omega];exact hb) (λj hj=>?_);rw[CK];exact h5 _ A0 A0
 have ALB:cutAt c (xW c k s)=i-f:=by unfold cutAt;rw[hib];rfl
 have s5:0<iR c (xW c k s):=by
  unfold iR;rw[h4];exact List.count_pos_iff.2 (D3 (i:=i-f) (by rw[CK,show f+(i-f)=i by omega];exact hb))
 have hrc:=Ti c s k h3;have TH:(xW c k s).size=s.size-f:=by rw[<-szl,h4,CC,szl]
 refine⟨⟨A0,A0,A0,?_,by intro j hj dA;omega⟩,?_⟩
 ·rw[xW,zA,ALB,h4,TH,KR,AJ (by rw[CC,szl];omega)];congr 1;omega
 rw[Ms,ALB];congr 2
 apply toL_inj;rw[zA,zA,h4,B4,EB]
def Scan.done{c s k f}(h:Scan c s s.size k f):k=iR c s/\Yc c s=Ms c k s++[s.extract f s.size]:=by
 obtain⟨h1,h2,h3,h4,h5⟩:=h;have h0:iR c (xW c k s)=0:=by
  unfold iR;rw[h4];refine A3O (λj hj=>?_);rw[CC,szl]at hj;rw[CK];exact h5 _ A0 A0
 have hrc:=Ti c s k h3;have hk:k=iR c s:=A0;refine⟨hk,?_⟩;unfold Yc;rw[<-hk];congr 2
 apply toL_inj;rw[h4,zA,AJ (by rw[CC,szl];omega)]
def Tm{s:ByteArray}{i:Nat}{c:UInt8}(hi:i<s.size):(((s.data.getD i 0).toNat:Int)=(c.toNat:Int))↔s.data.toList[i]? =some c:=by
 have h:s.data.toList[i]? =some (s.data.getD i 0):=by
  rw[CE,BC];have:i<s.data.size:=hi;rw[D1 this];rfl
 rw[h,E4];constructor
 ·intro e;exact UInt8.toNat_inj.1 A0
 intro e;rw[e]
set_option maxHeartbeats 2000000 in theorem SL (s c)(hs:s.size<=2097152):DZ prog 271 [.s s,.i .u8 c.toNat] (strs (Yc c s)):=by
 refine DA AY func271 rfl AP ntmps271 results271 ((A82 _)) (λnx cX=>?_)
 refine CT ?_;refine CT ?_;refine A6 λN1 CW=>CT ?_;refine AA<|AM (α:=Nat×Nat×Nat×Nat) (λx=>sl 35 [(0,.s s),(1,.i .u8 c.toNat),(5,.h x.2.2.2 0 x.2.1),(6,.i .i64 x.2.2.1),(7,.i .i64 x.1)]) (λx=>CJ DD x.2.2.2 (some ((Ms c x.2.1 s).map .s))) (λx m=>Scan c s x.1 x.2.1 x.2.2.1/\x.2.2.2<m) (λx=>s.size-x.1) ((0,0,0,nx+1+0)) ?_ ?_ (λ_ _ h=>h) ?_
 ·exact⟨Scan.start c s,AI⟩
 ·exact FV
 rintro⟨i,k,f,id⟩ m ⟨hsc,GF⟩
 simp only at hsc GF ⊢
 have fO:=Te c s k
 have Dg:=hsc.1
 have l5:=hsc.2.1
 have pZ:=hsc.2.2.1
 have c8:=A3J c s
 have g1:(k+1)*16<=140737488355328:=A0
 have g2:k+1<=9223372036854775807:=A0
 have YA:List.take k ((Ms c k s).map AV.s)=(Ms c k s).map .s:=AJ (by rw[A4];omega)
 refine A6 λN2 DN=>CT ?_;refine AK ?_ ?_<;>intro h1
 ·apply AF;apply DN;refine A6 λN3 DO=>AA<|sQ λN hN=>?_;simp-dsimp-implicitDefEqProofs(disch:=omega)only[go_sem,CQ];apply hN;refine AK ?_ ?_<;>intro h2
  ·have hb:=(Tm A0).1 h2;have hy:=hsc.yes hb;refine sQ λN hN=>?_;simp-dsimp-implicitDefEqProofs(disch:=omega)only[go_sem,CQ,YA,g1,g2];apply hN;refine K4 ?_;apply DO;refine K4 ?_;refine⟨(i+1,k+1,i+1,_),?_,by rw[hy.2,AZ];exact vX (AD _ _ _),?_,?_⟩
   ·exact FV
   ·exact⟨hy.1,AI⟩
   exact AI
  have hb:=λe=>h2 ((Tm (c:=c) A0).2 e)
  have hy:=hsc.no A0 hb;apply AF;apply DO;refine K4 ?_;refine BB (i+1,k,f,id) ?_ ?_ ?_
  ·exact FV
  ·exact⟨hy,AI⟩
  exact AI
 obtain rfl:i=s.size:=A0
 have hd:=hsc.done
 apply AO;apply CW;refine sQ λN hN=>?_;simp-dsimp-implicitDefEqProofs(disch:=omega)only[go_sem,CQ,YA,g1,g2];apply hN;refine BQ ?_;unfold strs
 rw[Tj,<-hd.1,hd.2,AZ]
 exact Ci (by simp[fO])
end
end Go.Proofs.YtgknbnkmilddhaaGreat