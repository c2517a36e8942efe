import Derived.Test.YtgknbnkmilddhaaGreatZ30
import Derived.Test.YtgknbnkmilddhaaGreatZ31
set_option linter.unusedVariables false
set_option linter.unusedSimpArgs false

namespace Go.Proofs.YtgknbnkmilddhaaGreat
theorem lM{cs:List AV}{k:Nat}{x:AV}(h:k<cs.length):B3 cs k [x]=cs.set k x:=by
  rw[B3,List.set_eq_take_append_cons_drop,if_pos h];simp
theorem Ow.A2N{H H':HP}{p k n:Nat}{rs ts:List AV}{ids is:List Nat}{r X:AV}(h:Ow H (.h p 0 n) (.v n ts) ids)(hp:H p=some rs)(hk:k<rs.length)(ho:Ow H' r X is)(hp':H' p=some (B3 rs k [r]))(GF:∀i∈ids,i≠p->H' i=H i)(D0:ids.Nodup):
    rs.length=n/\ts.length=n/\∃l2 l3,(∀i∈l2++l3,i∈ids)/\p∈ids/\p∉l2++l3/\(l2++l3).Nodup/\Ow H' (.h p 0 n) (.v n (ts.set k X)) (p::(l2++(is++l3))):=by
  rcases h.dM _ _ rfl with ⟨e,_⟩|⟨e,_⟩|⟨id,cs2,CU,e,rfl,g1,g2,g3⟩
  · cases e
  · cases e
  injection e with e1 e2 e3
  subst e1;rw[hp]at g1;cases g1;have hlen:=g3.len;obtain⟨mI,gR⟩:=List.nodup_cons.1 D0;obtain⟨il,ia,ir,rfl,s1,s2,s3⟩:=(g3.AJ (H':=H') (λi hi=>GF i (by simp[hi]) (λe=>mI (by rw[<-e];exact hi)))).cut (a:=k) hk;have s4:=IH.set s1 ho s3 hk A0;have:=Ow.h p _ _ _ hp' (by rw[lM hk];exact s4);rw[lM hk,List.length_set,g2]at this;refine⟨g2,A0,il,ir,λi hi=>?_,AB,?_,?_,this⟩
  · simp only[List.mem_append,List.mem_cons]at hi ⊢;grind
  · simp only[List.mem_append,not_or]at mI ⊢;grind
  simp only[List.nodup_append,List.mem_append]at gR ⊢;grind
theorem EB.AC3{a m:Nat}{H:HP}{r P B:AV}{os:List Int}{X:List (List Int)}{Y:List (List (List Int))}{b c:Nat}{cs:List AV}(h:EB a m H r P B os X Y)(hP:LC H b c P cs)(hX:0<X.length):∃p,P= .h p 0 X.length/\H p=some cs/\cs.length=X.length/\a<=p/\p<m:=by
  obtain⟨i0,i1,i2,⟨h0,h1,h2⟩,h3,h4⟩:=h;rw[IU]at h1;rcases h1.lc hP with ⟨_,_,e,_⟩|⟨q,CU,rfl,g1,g2,rfl,g3⟩
  · rw[List.length_map]at e;omega
  rw[List.length_map]at g2;exact⟨q,by rw[g2],g1,g2.symm,h4 q AB⟩
theorem EB.QE{a a' m m' p k n:Nat}{H H':HP}{r B r1:AV}{os:List Int}{X:List (List Int)}{Y:List (List (List Int))}{rs:List AV}{x:List Int}{is:List Nat}(h:EB a m H r (.h p 0 n) B os X Y)(hp:H p=some rs)(hk:k<rs.length)(hn:n=X.length)(ho:Ow H' r1 (ints x) is)(D0:is.Nodup)(hb:∀i∈is,(i<a\/m<=i)/\a'<=i/\i<m')
    (hp':H' p=some (B3 rs k [r1])) (GF:∀i,a<=i->i<m->i≠p->H' i=H i) (hm:m<=m') (Ux:a'<=a):EB a' m' H' r (.h p 0 n) B os (X.set k x) Y:=by
  subst hn;obtain⟨i0,i1,i2,⟨h0,h1,h2⟩,h3,h4⟩:=h;unfold rows at h1;have mI:i1.Nodup:=by grind
  obtain⟨g1,g2,l2,l3,g3,g4,g5,g6,g7⟩:=h1.A2N hp hk ho hp' (λi hi=>GF i (h4 i (by simp[hi])).1 (h4 i (by simp[hi])).2) mI;have AQ:∀i,i∈i0\/i∈i2->i≠p:=by
    intro i hi e;subst e;grind
  refine⟨i0,p::(l2++(is++l3)),i2,⟨h0.AJ λi hi=>GF i (h4 i (by simp[hi])).1 (h4 i (by simp[hi])).2 (AQ i (.inl hi)),?_,h2.AJ λi hi=>GF i (h4 i (by simp[hi])).1 (h4 i (by simp[hi])).2 (AQ i (.inr hi))⟩,?_,?_⟩
  · unfold rows;rw[List.length_set,List.map_set];exact g7
  · have h5:∀i∈i0++(i1++i2),a<=i/\i<m:=h4;simp only[List.nodup_append,List.nodup_cons,List.mem_append,List.mem_cons]at h3 h5 g3 g5 g6 ⊢;grind
  intro i hi;simp only[List.mem_append,List.mem_cons]at hi h4 g3;grind
theorem EB.AC4{a m k:Nat}{H:HP}{r P B:AV}{os:List Int}{X:List (List Int)}{Y:List (List (List Int))}{b c:Nat}{cs:List AV}(h:EB a m H r P B os X Y)(hB:LC H b c B cs)(hk:k<Y.length)(hl:0<(Y.getD k []).length)(oR:gO (cs.getD k .j)=true):
    ∃b q ds,B= .h b 0 Y.length/\H b=some cs/\cs.length=Y.length/\(a<=b/\b<m)/\cs.getD k .j= .h q 0 (Y.getD k []).length/\H q=some ds/\ds.length=(Y.getD k []).length/\(a<=q/\q<m)/\q≠b:=by
  obtain⟨i0,i1,i2,⟨h0,h1,h2⟩,h3,h4⟩:=h;rw[ON]at h2;rcases h2.lc hB with ⟨_,_,e,_⟩|⟨b1,CU,rfl,g1,g2,rfl,g3⟩
  · rw[List.length_map]at e;omega
  rw[List.length_map]at g2;obtain⟨il,ia,ir,rfl,s1,s2,s3⟩:=g3.cut (a:=k) A0;rw[DT hk]at s2;unfold rows at s2;rcases s2.dM _ _ rfl with ⟨e,_⟩|⟨_,e,_⟩|⟨q,ds,ls,e,rfl,t1,t2,t3⟩
  · rw[e]at oR;cases oR
  · omega
  refine⟨b1,q,ds,by rw[g2],g1,g2.symm,h4 b1 AB,e,t1,t2,h4 q AB,?_⟩;grind
theorem EB.V9{a a' m m' b q k l n:Nat}{H H':HP}{r P r1:AV}{os:List Int}{X:List (List Int)}{Y:List (List (List Int))}{cs ds:List AV}{x:List Int}{is:List Nat}(h:EB a m H r P (.h b 0 n) os X Y)(OR:H b=some cs)(hk:k<cs.length)(hn:n=Y.length)(hq:cs.getD k .j= .h q 0 (Y.getD k []).length)(hd:H q=some ds)(hl:l<ds.length)(ho:Ow H' r1 (ints x) is)(D0:is.Nodup)(hb:∀i∈is,(i<a\/m<=i)/\a'<=i/\i<m')
    (Xq:H' q=some (B3 ds l [r1])) (GF:∀i,a<=i->i<m->i≠q->H' i=H i) (hm:m<=m') (Ux:a'<=a):EB a' m' H' r P (.h b 0 n) os X (Y.set k ((Y.getD k []).set l x)):=by
  subst hn;obtain⟨i0,i1,i2,⟨h0,h1,h2⟩,h3,h4⟩:=h;unfold A6 at h2;rcases h2.dM _ _ rfl with ⟨e,_⟩|⟨e,_⟩|⟨b1,cs1,CU,e,rfl,g1,g2,g3⟩
  · cases e
  · cases e
  injection e with e1 e2 e3
  subst e1;rw[OR]at g1;cases g1;have gR:(b::CU).Nodup:=by grind
  obtain⟨hn3,hn4⟩:=List.nodup_cons.1 gR;obtain⟨il,ia,ir,rfl,s1,s2,s3⟩:=g3.cut (a:=k) hk;rw[DT A0,hq]at s2;unfold rows at s2;have hna:ia.Nodup:=by grind
  have hia:∀i∈ia,a<=i/\i<m:=λi hi=>h4 i (by simp[hi])
  obtain⟨w1,w2,l2,l3,w3,w4,w5,w6,w7⟩:=s2.A2N hd hl ho Xq (λi hi AQ=>GF i (hia i hi).1 (hia i hi).2 AQ) hna;have AC5:∀i,i∈i0\/i∈i1\/i=b\/i∈il\/i∈ir->i≠q:=by
    intro i hi e;subst e;simp only[List.nodup_append,List.nodup_cons,List.mem_append,List.mem_cons,not_or]at h3;grind
  have K6:∀i,i∈i0\/i∈i1\/i=b\/i∈il\/i∈ir->H' i=H i:=by
    intro i hi;have h5:a<=i/\i<m:=h4 i (by simp only[List.mem_append,List.mem_cons];grind);exact GF i h5.1 h5.2 (AC5 i hi)
  have v4:=IH.set (s1.AJ λi hi=>K6 i (by simp[hi])) w7 (s3.AJ λi hi=>K6 i (by simp[hi])) hk (by simp;omega);have IA:cs.set k (.h q 0 (Y.getD k []).length)=cs:=by
    apply List.ext_getElem?;intro i;rw[List.getElem?_set];split
    · rename_i e;subst e;rw[<-hq,List.getD_eq_getElem?_getD,List.getElem?_eq_getElem hk];rfl
    rfl
  rw[IA]at v4;have v5:=Ow.h b _ _ _ ((K6 b AB).trans OR) v4;refine⟨i0,i1,b::(il++(q::(l2++(is++l3))++ir)),⟨h0.AJ λi hi=>K6 i (by simp[hi]),h1.AJ λi hi=>K6 i (by simp[hi]),?_⟩,?_,?_⟩
  · rw[g2]at v5;unfold A6;rw[List.length_set,List.map_set];have e9:rows ((Y.getD k []).set l x)= .v (Y.getD k []).length (((Y.getD k []).map ints).set l (ints x)):=by unfold rows;rw[List.length_set,List.map_set]
    rw[e9];exact v5
  · have h5:∀i∈i0++(i1++b::(il++(ia++ir))),a<=i/\i<m:=h4;simp only[List.nodup_append,List.nodup_cons,List.mem_append,List.mem_cons]at h3 h5 w3 w5 w6 ⊢;grind
  intro i hi;simp only[List.mem_append,List.mem_cons]at hi h4 w3;grind
theorem EB.CP{a m b c b' c' p q:Nat}{H:HP}{r P B:AV}{os:List Int}{X:List (List Int)}{Y:List (List (List Int))}{cs CT:List AV}(h:EB a m H r P B os X Y)(hP:LC H b c P cs)(hB:LC H b' c' B CT)(hp:bk P=p+1){k:Nat}(hk:k<CT.length)(hq:bk (CT.getD k .j)=q+1):p≠q/\bk B≠p+1/\bk B≠q+1:=by
  obtain⟨i0,i1,i2,⟨h0,h1,h2⟩,h3,h4⟩:=h;have g1:=h1.iY hP hp;unfold A6 at h2;rcases h2.lc hB with ⟨_,rfl,_⟩|⟨b1,CU,rfl,g2,g3,rfl,g4⟩
  · simp at hk
  obtain⟨il,ia,ir,rfl,s1,s2,s3⟩:=g4.cut (a:=k) hk;have hqi:q∈ia:=by
    generalize hc:CT.getD k .j=C at s2 hq
    generalize (Y.map rows).getD k .j=Z at s2
    cases s2 with
    |leaf _ hf hn=>cases C<;>simp only[bk]at hq<;>first|omega|(cases hn)
    |nl=>cases hq
    |h id cs ts CU g1 g2=>simp only[bk]at hq;simp;omega
    |q=>cases hq
    |g=>cases hq
    |t=>cases hq
  simp only[bk];simp only[List.nodup_append,List.nodup_cons,List.mem_append,List.mem_cons,not_or]at h3;refine⟨?_,?_,?_⟩<;>grind
theorem TQ.QE{a m k:Nat}{H:HP}{r P B:AV}{os:List Int}{X:List (List Int)}{Y:List (List (List Int))}{cp cb:List AV}(h:TQ a m H r P B os X Y cp cb)(hk:k<X.length):∃p,P= .h p 0 X.length/\H p=some cp/\cp.length=X.length/\(a<=p/\p<m)/\
    ∀(H':HP) (r1:AV) (x:List Int) (is:List Nat) (a' m':Nat),Ow H' r1 (ints x) is->is.Nodup->(∀i∈is,(i<a\/m<=i)/\a'<=i/\i<m')->H' p=some (B3 cp k [r1])->(∀i,a<=i->i<m->i≠p->H' i=H i)->m<=m'->a'<=a->TQ a' m' H' r P B os (X.set k x) Y (B3 cp k [r1]) cb:=by
  obtain⟨h1,h2,h3,h4⟩:=h;obtain⟨p,rfl,hp,hl,p1,p2⟩:=h1.AC3 h2 A0;refine⟨p,rfl,hp,hl,⟨p1,p2⟩,λH' r1 x is a' m' g1 g2 g3 g4 g5 g6 g7=>⟨h1.QE hp A0 rfl g1 g2 g3 g4 g5 g6 g7,?_,?_,h4⟩⟩
  · exact .mk g4 (by rw[T5 (by simp;omega)];exact hl.symm) A0 A0
  have AQ:bk B≠p+1:=by
    have:=h1.ne h2 h3;rw[show bk (.h p 0 X.length)=p+1 from rfl]at this;omega
  exact(h3.OZ (λi hi=>g5 i (by have:=h3.bd;omega) (by have:=h3.bd;omega) (λe=>AQ (by rw[<-e];exact hi)))).wide g7 g6
theorem TQ.V9{a m k l:Nat}{H:HP}{r P B:AV}{os:List Int}{X:List (List Int)}{Y:List (List (List Int))}{cp cb:List AV}(h:TQ a m H r P B os X Y cp cb)(hk:k<Y.length)(hl:l<(Y.getD k []).length):∃b q ds,B= .h b 0 Y.length/\H b=some cb/\cb.length=Y.length/\(a<=b/\b<m)/\cb.getD k .j= .h q 0 (Y.getD k []).length/\H q=some ds/\ds.length=(Y.getD k []).length/\(a<=q/\q<m)/\q≠b/\
    ∀(H':HP) (r1:AV) (x:List Int) (is:List Nat) (a' m':Nat),Ow H' r1 (ints x) is->is.Nodup->(∀i∈is,(i<a\/m<=i)/\a'<=i/\i<m')->H' q=some (B3 ds l [r1])->(∀i,a<=i->i<m->i≠q->H' i=H i)->m<=m'->a'<=a->TQ a' m' H' r P B os X (Y.set k ((Y.getD k []).set l x)) cp cb:=by
  obtain⟨h1,h2,h3,h4⟩:=h;have hlen:k<cb.length:=by
    obtain⟨i0,i1,i2,⟨g0,g1,g2⟩,_⟩:=id h1;rw[ON]at g2;rcases g2.lc h3 with ⟨_,_,e,_⟩|⟨_,_,_,_,e,_⟩<;>rw[List.length_map]at e<;>omega
  have F7:gO (cb.getD k .j)=true:=h4 _ (by rw[List.getD_eq_getElem?_getD,List.getElem?_eq_getElem hlen];exact List.getElem_mem _);obtain⟨b,q,ds,rfl,hb,JN,b12,hq,hd,Ve,q12,hqb⟩:=h1.AC4 h3 hk A0 F7;refine⟨b,q,ds,rfl,hb,JN,b12,hq,hd,Ve,q12,hqb,λH' r1 x is a' m' g1 g2 g3 g4 g5 g6 g7=>⟨h1.V9 hb hlen rfl hq hd A0 g1 g2 g3 g4 g5 g6 g7,?_,?_,h4⟩⟩
  · refine(h2.OZ (λi hi=>g5 i (by have:=h2.bd;omega) (by have:=h2.bd;omega) (λe=>?_))).wide g7 g6;have:=h1.CP h2 h3 hi hlen (q:=q) (by rw[hq];rfl);exact this.1 e
  exact .mk (by rw[g5 b b12.1 b12.2 (λe=>hqb e.symm)];exact hb) JN.symm A0 A0
theorem Aa{α:Type}(f:α->AV){L:List α}{k:Nat}{d:α}(h:k<L.length):(L.map f).take (k+1)=(L.map f).take k++[f (L.getD k d)]:=by
  rw[List.take_succ_eq_append_getElem (by simpa using h)];simp[h]
theorem DX(pw:List (List Int))(tZ:BO pw):∀nx,AC Tryz.prog 123 nx BM [rows pw] (λBB H' r=>∃cs,gN nx BB H' r cs (pw.map ints)):=by
 have hl:pw.length<=1048576:=tZ.n
 have hr:∀k,k<pw.length->(pw.getD k []).length<=1048576:=λk _=>NB (P:=λx:List Int=>x.length<=1048576) tZ.v AB k
 intro nx
 refine BS AA Tryz.func123 rfl A7 Tryz.ntmps123 Tryz.results123 (λcX=>?_)
 refine DK ?_;refine DK ?_;refine AW.seq λN1 B2=>?_;refine DK ?_;apply AW.block;refine A8 (α:=Nat×HP×AV×List AV) (λx=>sl 21 [(0,rows pw),(3,x.2.2.1),(4,.i .i64 x.1)]) (λx=>x.2.1) (λx m=>(x.1<=pw.length/\nx<=m)/\gN nx m x.2.1 x.2.2.1 x.2.2.2 ((pw.map ints).take x.1)) (λx=>pw.length-x.1) ((0,AT BM (nx+1) (some []),.h (nx+1) 0 0,[])) ?_ ?_ (λ_ _ h=>h) ?_
 ·exact⟨⟨AB,A9⟩,by simpa using gN.empty (A4 _ _ _) A0 A9⟩
 ·simp(disch:=omega) [AN,AO,sl,rows]
 skip
 rintro⟨k,G,L,cs⟩ m ⟨⟨hk,hm⟩,hL⟩
 refine AG ?_;dsimp only at hk hm hL ⊢
 have MW:=hL.1
 have l4:=MW.bd
 have MA:=MW.one
 have IJ:=MW.len
 have JN:=hL.len
 rw[List.length_take,List.length_map]at JN
 refine AW.seq λN2 B7=>?_;refine DK ?_;refine AW.cond rfl ?_ ?_<;>intro h1<;>try simp only[cn]at h1
 ·have DN:k<pw.length:=A0;have c7:cs.length=k:=A0;apply AW.skip;apply B7;refine AW.seq λN3 BC=>?_;apply AW.block;refine TA ?_;refine AC.own (Vr (pw.getD k []) (by have:=hr k DN;omega)) (.cons (.refl _) .nil) ?_
  intro m3 H3 r3 AC2 W1 hH3 NU;obtain⟨u4,u5,u6⟩:=NU.1.slice;have RW:LC H3 nx m L cs:=MW.AJ (λi i1 i2=>hH3 i A0);have u7:=J6 u5;try simp-dsimp-implicitDefEqProofs(disch:=(first|omega|((repeat refine LC.AT A0 ?_);assumption))) only[go_sem,u4,u5,u6,u7,IJ,c7,BP (a:=nx) (b:=m) (L:=L) (cs:=cs)]
  apply BC;refine AI (λG3 CB=>?_);dsimp only at CB;refine TA ?_;refine⟨(k+1,G3,.h (m+4+7) 0 (k+1),cs++[r3]),?_,λ_ _ h=>h,?_,?_⟩
  ·simp(disch:=omega) [AN,AO,sl,AR,rows]
  ·refine⟨⟨A9,A9⟩,?_⟩;dsimp only;rw[Aa ints DN (d:=[])];have hpu:=hL.push (H':=G3) (id:=m+4+7) (m':=m3) (NU.1.AJ (λi hi=>by have:=NU.2.2 i hi;rw[<-CB];simp(disch:=omega)only[A1,AY])) NU.2.1 (λi hi=>by have:=NU.2.2 i hi;omega) (by rw[<-CB];simp(disch:=omega)only[A4]) A0 (λhi=>by have:=NU.2.2 _ hi;omega) A0 (λi i1 i2 i3=>by rw[<-CB];simp(disch:=omega)only[A1,AY];exact hH3 i A0);rw[c7]at hpu;exact hpu.AJ (λ_ _ _=>rfl) A9
  first|omega|(simp only;omega)
 have S8:k=pw.length:=A0
 rw[List.take_of_length_le (by rw[List.length_map];omega)]at hL
 apply AW.exit;apply B2;refine DK ?_;refine AH ?_;exact⟨cs,hL.AJ (λ_ _ _=>rfl) A0⟩
theorem Vx(a:List Int)(ha:a.length<=1099511627776)(nx:Nat)(H:HP):AC Tryz.prog 87 nx H [ints a] (λBB H' r=>gO r=true/\(∃ids,Own nx BB H' r (ints a) ids)/\∀i,i<nx->H' i=H i):=by
  refine(CJ a ha nx H).mono ?_;rintro BB H' r ⟨id,rfl,h1,h2,rfl⟩;exact⟨rfl,⟨_,Own.ints (by rw[A4,O9]) rfl h1 h2⟩,λi hi=>A1 _ _ A0⟩
theorem mkO{N:St->Prop}{C:Nat->HP->AV->AV->List Nat->List AV->Prop}{S:Nat->HP->AV->AV->St}{G:Prop}(h1:(∀m H r P ids cs,C m H r P ids cs->N (S m H r P))->G)(h2:∀m H r P ids cs,C m H r P ids cs->N (S m H r P)):G:=h1 h2
theorem mkL{N:St->Prop}{C:Nat->HP->AV->List AV->Prop}{S:Nat->HP->AV->St}{G:Prop}(h1:(∀m H L cs,C m H L cs->N (S m H L))->G)(h2:∀m H L cs,C m H L cs->N (S m H L)):G:=h1 h2
set_option maxHeartbeats 4000000 in
theorem SV(os:List Int)(pw:List (List Int))(cj:List (List (List Int)))(h0:os.length<=1048576)(h1:BO pw)(h2:F1 cj):∀nx,AC Tryz.prog 175 nx BM [AP os pw cj] (λBB H' r=>∃r0 P B cp cb,r= .g [r0,P,B]/\TQ nx BB H' r0 P B os pw cj cp cb/\gO r0=true):=by
 intro nx
 refine BS AA Tryz.func175 rfl A7 Tryz.ntmps175 Tryz.results175 (λcX=>?_)
 refine C2 ?_;refine AK 1 nx [ints os,rows pw,A6 cj] rfl (by simp(disch:=omega)only[A1,A4]) ?_
 refine AG ?_;refine AW.seq λN hN=>?_;apply mkO (N:=N)
 ·intro key;refine EO AA A7 [true,true,false,true,true,false,false,false,false] (.br 2 (.br 5 (.br 6 (.br 7 (.br 8 .nil .nil) .nil) (.br 7 (.br 6 (.br 8 .nil .nil) .nil) .nil)) (.br 7 (.br 5 (.br 6 (.br 8 .nil .nil) .nil) .nil) .nil)) (.br 7 (.br 2 (.br 5 (.br 6 (.br 8 .nil .nil) .nil) .nil) .nil) .nil)) A7 ?_;refine BR ?_;refine⟨?_,?_⟩
  ·skip
   refine(Vx os A0 _ _).AS ?_;rintro m0 H0 r0 uC ⟨Ab,⟨pF,P4⟩,Nw⟩;obtain⟨u1,u2,u3⟩:=P4.1.slice;refine c0 u1 u2 u3 ?_
   refine⟨?_,?_⟩
   ·skip
    refine(AC.frame (DX pw h1 _)).AS ?_;rintro m1 H1 P T6 ⟨G0,⟨cp,Jj⟩,CD,FA⟩;have tA:=Jj.AJ (H':=H1) (λi i1 i2=>FA i i1) (Nat.le_refl _);obtain⟨v1,v2⟩:=Jj.1.cells;have v3:=Jj.1.one;have M5:=P4.AJ (H':=H1) (λi i1 i2=>CD i i2) (Nat.le_refl _) (Nat.le_refl _);have hb:H1 (nx+1)=some [.nl,.nl,.nl]:=by rw[CD _ A0,Nw _ A0];simp(disch:=omega)only[A1,A4]
    ((try simp-dsimp-implicitDefEqProofs(maxSteps:=800000) (disch:=omega)only[go_sem,and_self,AP,u1,u2,u3,v1,v2,v3]));exact key m1 H1 r0 P pF cp (And.intro hb (Exists.intro m0 (And.intro (And.intro (And.intro uC Ab) T6) (And.intro M5 tA))))
   skip
   refine(AC.frame (DX pw h1 _)).AS ?_;rintro m1 H1 P T6 ⟨G0,⟨cp,Jj⟩,CD,FA⟩;have tA:=Jj.AJ (H':=H1) (λi i1 i2=>FA i i1) (Nat.le_refl _);obtain⟨v1,v2⟩:=Jj.1.cells;have v3:=Jj.1.one;have M5:=P4.AJ (H':=H1) (λi i1 i2=>by rw[CD i i2];simp(disch:=omega)only[A1]) (Nat.le_refl _) (Nat.le_refl _);have hb:H1 (nx+1)=some [.nl,.nl,.nl]:=by rw[CD _ A0];simp(disch:=omega)only[A1];rw[Nw _ A0];simp(disch:=omega)only[A1,A4]
   have hc:H1 (nx+2+7)=some [.nl,.nl,.nl]:=by rw[CD _ A0];simp(disch:=omega)only[A4]
   (try simp-dsimp-implicitDefEqProofs(maxSteps:=800000) (disch:=omega)only[go_sem,and_self,AP,u1,u2,u3,v1,v2,v3,hc])
   exact key m1 H1 r0 P pF cp (And.intro hb (Exists.intro m0 (And.intro (And.intro (And.intro uC Ab) T6) (And.intro M5 tA))))
  skip
  refine(Vx os A0 _ _).AS ?_;rintro m0 H0 r0 uC ⟨Ab,⟨pF,P4⟩,Nw⟩;obtain⟨u1,u2,u3⟩:=P4.1.slice;refine c0 u1 u2 u3 ?_
  refine(AC.frame (DX pw h1 _)).AS ?_;rintro m1 H1 P T6 ⟨G0,⟨cp,Jj⟩,CD,FA⟩;have tA:=Jj.AJ (H':=H1) (λi i1 i2=>FA i i1) (Nat.le_refl _);obtain⟨v1,v2⟩:=Jj.1.cells;have v3:=Jj.1.one;have M5:=P4.AJ (H':=H1) (λi i1 i2=>CD i i2) (Nat.le_refl _) (Nat.le_refl _);have hb:H1 (nx+1)=some [.nl,.nl,.nl]:=by rw[CD _ A0,Nw _ A0];simp(disch:=omega)only[A1,A4]
  have hc:H1 (nx+2+7)=some [.nl,.nl,.nl]:=by rw[CD _ A0,Nw _ A0];simp(disch:=omega)only[A1,A4]
  (try simp-dsimp-implicitDefEqProofs(maxSteps:=800000) (disch:=omega)only[go_sem,and_self,AP,u1,u2,u3,v1,v2,v3,hc])
  exact key m1 H1 r0 P pF cp (And.intro hb (Exists.intro m0 (And.intro (And.intro (And.intro uC Ab) T6) (And.intro M5 tA))))
 intro m1 H1 r0 P pF cp hC
 obtain⟨hb,m0,⟨⟨uC,Ab⟩,T6⟩,M5,tA⟩:=hC
 apply hN;refine AW.seq λN1 B2=>?_;refine C2 ?_;apply AW.block;refine AI (λG1 I8=>?_);dsimp only at I8
 have O0:G1 (nx+9)=some [r0,P,.nl]:=by rw[<-I8];simp(disch:=omega)only[A4]
 have cZ:G1 (nx+1)=some [.nl,.nl,.nl]:=by rw[<-I8,<-hb];simp(disch:=omega)only[A1]
 obtain⟨AC6,A0V,w1,w2,w3⟩:=tA
 have AC7:LC G1 m0 m1 P cp:=AC6.AJ (λi i1 i2=>by rw[<-I8];simp(disch:=omega)only[A1])
 have AC8:EB (nx+11) m1 G1 r0 P .nl os pw []:=by
  refine⟨pF,A0V,[],⟨M5.1.AJ (λi hi=>by have:=M5.2.2 i hi;rw[<-I8];simp(disch:=omega)only[A1]),?_,.nl⟩,?_,?_⟩
  ·rw[IU];exact w1.AJ (λi hi=>by have:=w3 i hi;rw[<-I8];simp(disch:=omega)only[A1])
  ·rw[List.append_nil,List.nodup_append];exact⟨M5.2.1,w2,λx hx y hy e=>by have:=M5.2.2 x hx;have:=w3 y hy;omega⟩
  intro i hi;rw[List.append_nil,List.mem_append]at hi;rcases hi with hi|hi
  ·have:=M5.2.2 i hi;omega
  have:=w3 i hi;omega
 have JN:cj.length<=1048576:=h2.n
 refine A8 (α:=Nat×HP×AV×List AV) (λx=>sl 31 [(1,.p 0 [ints os,rows pw,A6 cj]),(2,.q (nx+1) 0),(3,.q (nx+9) 0),(4,.i .i64 x.1)]) (λx=>x.2.1) (λx m=>(x.1<=cj.length/\m1<=m)/\(x.2.1 (nx+9)=some [r0,P,x.2.2.1]/\x.2.1 (nx+1)=some [.nl,.nl,.nl])/\EB (nx+11) m x.2.1 r0 P x.2.2.1 os pw (cj.take x.1)/\LC x.2.1 (nx+11) m P cp/\(LC x.2.1 (nx+11) m x.2.2.1 x.2.2.2/\x.2.2.2.length=x.1)/\∀y∈x.2.2.2,gO y=true) (λx=>cj.length-x.1) ((0,G1,.nl,[])) ?_ ?_ (λ_ _ h=>h) ?_
 ·exact⟨⟨AB,A9⟩,⟨O0,cZ⟩,by simpa using AC8.AJ (λ_ _ _=>rfl) A9,AC7.wide A0 A9,⟨.nil,rfl⟩,AB⟩
 ·simp(disch:=omega) [AN,AO,sl,AR,A6]
 skip
 rintro⟨k,G,B,cb⟩ m ⟨⟨hk,hm⟩,⟨hq,hx⟩,eA,qH,⟨W9,kF⟩,oR⟩
 refine AG ?_;dsimp only at hk hm hq hx eA qH W9 kF oR ⊢
 have hPb:=qH.bd
 have Vs:=qH.one
 have hBb:=W9.bd
 have zZ:=W9.one
 have hBl:=W9.len
 refine AW.seq λN2 B7=>?_;refine sQ λN hN=>?_;simp-dsimp-implicitDefEqProofs(maxSteps:=800000) (disch:=omega)only[go_sem,A6,AP];apply hN;refine AW.cond rfl ?_ ?_<;>intro h1<;>try simp only[cn]at h1
 ·have WE:k<cj.length:=A0;have Wy:BO (cj.getD k []):=NB h2.v .nil k;apply AW.skip;apply B7;refine AW.seq λN3 BC=>?_;apply AW.block;refine AW.name λN hN=>?_;apply mkL (N:=N)
  ·intro key;refine EO AA A7 [true,false,true,true,true,true,true,false,false,false,true,false] (.br 1 (.br 7 (.br 8 (.br 9 (.br 11 .nil .nil) .nil) .nil) .nil) (.br 7 (.br 1 (.br 8 (.br 9 (.br 11 .nil .nil) .nil) .nil) (.br 8 (.br 1 (.br 9 (.br 11 .nil .nil) .nil) .nil) .nil)) .nil)) A7 ?_;(try simp-dsimp-implicitDefEqProofs(maxSteps:=800000) (disch:=omega)only[go_sem,A6,AY,DT,AP,↓vO,↓vP,↓vN,hq,zZ,hBl,kF]);refine⟨?_,?_⟩
   ·skip
    refine(AC.frame (DX (cj.getD k []) Wy _)).AS ?_;rintro m3 H3 L W1 ⟨G0,⟨cl,qJ⟩,CD,FA⟩;have A2O:=qJ.AJ (H':=H3) (λi i1 i2=>FA i i1) (Nat.le_refl _);obtain⟨v1,v2⟩:=qJ.1.cells;have v3:=J6 qJ.1.one;have AC9:LC H3 (nx+11) m B cb:=W9.AJ (λi i1 i2=>CD i A0);have YS:H3 (nx+9)=some [r0,P,B]:=(CD _ A0).trans hq;try simp-dsimp-implicitDefEqProofs(disch:=(first|omega|((repeat refine LC.AT A0 ?_);assumption))) only[go_sem,AP,v1,v2,v3,YS,zZ,hBl,kF,AY,J6 zZ,and_self,BP (a:=nx+11) (b:=m) (L:=B) (cs:=cb)]
    exact key m3 H3 L cl (And.intro W1 (And.intro CD A2O))
   skip
   refine(AC.frame (DX (cj.getD k []) Wy _)).AS ?_;rintro m3 H3 L W1 ⟨G0,⟨cl,qJ⟩,CD,FA⟩;have A2O:=qJ.AJ (H':=H3) (λi i1 i2=>FA i i1) (Nat.le_refl _);obtain⟨v1,v2⟩:=qJ.1.cells;have v3:=J6 qJ.1.one;have AC9:LC H3 (nx+11) m B cb:=W9.AJ (λi i1 i2=>CD i A0);have YS:H3 (nx+9)=some [r0,P,B]:=(CD _ A0).trans hq;try simp-dsimp-implicitDefEqProofs(disch:=(first|omega|((repeat refine LC.AT A0 ?_);assumption))) only[go_sem,AP,v1,v2,v3,YS,zZ,hBl,kF,AY,J6 zZ,and_self,BP (a:=nx+11) (b:=m) (L:=B) (cs:=cb)]
   exact key m3 H3 L cl (And.intro W1 (And.intro CD A2O))
  intro m3 H3 L cl hC;obtain⟨W1,CD,MW,A2M,o1,o2,o3⟩:=hC;apply hN;apply BC;refine AI (λG5 EU=>?_);dsimp only at EU;have A2L:G5 (nx+9)=some [r0,P,.h (m+5+9) 0 (k+1)]:=by rw[<-EU];simp(disch:=omega)only[A4]
  have Jd:G5 (m+5+9)=some (cb++[L]):=by rw[<-EU];simp(disch:=omega)only[A4,A1]
  have pG:∀i,i<m->i≠nx+9->bk B≠i+1->G5 i=G i:=λi i1 i2 i3=>by rw[<-EU];simp(disch:=omega)only[A1,AY];exact CD i A0
  have ACA:∀i,m+5+12<=i->G5 i=H3 i:=λi i1=>by rw[<-EU];simp(disch:=omega)only[A1,AY]
  have hPB:=eA.ne qH W9;have Je:EB (nx+11) m3 G5 r0 P (.h (m+5+9) 0 (k+1)) os pw (cj.take (k+1)):=by
   have ht:cj.take (k+1)=cj.take k++[cj.getD k []]:=by
    rw[List.take_succ_eq_append_getElem WE];simp[WE]
   rw[ht];have:=eA.Vj (m':=m3) (x:=cj.getD k []) (r1:=L) (is:=A2M) (H':=G5) (id:=m+5+9) W9 (by rw[IU];exact o1.AJ (λi hi=>by have:=o3 i hi;exact ACA i A0)) o2 (λi hi=>by have:=o3 i hi;omega) Jd A0 (λhi=>by have:=o3 _ hi;omega) A0 (λi i1 i2 i3=>pG i A0 A0 i3);rwa [kF]at this
  refine KT ?_;refine⟨(k+1,G5,.h (m+5+9) 0 (k+1),cb++[L]),?_,λ_ _ h=>h,?_,?_⟩
  ·simp(disch:=omega) [AN,AO,sl,AR,ints,rows,A6,AP,AR]<;>omega
  ·refine⟨⟨A9,A9⟩,⟨A2L,?_⟩,Je.AJ (λ_ _ _=>rfl) A9,?_,⟨.mk Jd (by simp[kF]) A0 A9,by simp[kF]⟩,wK oR MW.gO⟩
   ·dsimp only;rw[pG _ A0 A0 A0];exact hx
   exact(qH.OZ (λi i1=>pG i A0 A0 A0)).wide (Nat.le_refl _) A9
  first|omega|(simp only;omega)
 have S8:k=cj.length:=A0
 rw[List.take_of_length_le A0]at eA
 apply AW.exit;apply B2;refine sQ λN hN=>?_;simp-dsimp-implicitDefEqProofs(disch:=omega)only[go_sem,AP,hq,hx,(M5.1.slice).2.1,Vs,zZ,Bool.and_self]
 apply hN;refine AH ?_;exact⟨r0,P,B,cp,cb,rfl,TQ.wide (TQ.AJ ⟨eA,qH,W9,oR⟩ (λi i1 i2=>by simp(disch:=omega)only[A1]) (Nat.le_refl _)) A0 A0,Ab⟩
theorem gS(os:List Int)(pw:List (List Int))(cj:List (List (List Int)))(h0:os.length<=1048576)(h1:BO pw)(h2:F1 cj)(nx:Nat):AC Tryz.prog 175 nx BM [AP os pw cj] (λBB H' r=>∃r0 P B cp cb,r= .g [r0,P,B]/\TQ nx BB H' r0 P B os pw cj cp cb):=(SV os pw cj h0 h1 h2 nx).mono λ_ _ _ ⟨r0,P,B,cp,cb,e,h,_⟩=>⟨r0,P,B,cp,cb,e,h⟩
theorem IH.eqI{H:HP}:∀{xs:List Int} {cs:List AV} {ks:List Nat},IH H cs (xs.map (.i .i64)) ks->cs=xs.map (.i .i64)/\ks=[]:=by
  intro xs;induction xs with
  |nil=>intro cs ks h;cases h;exact⟨rfl,rfl⟩
  | cons x xs ih=>
    intro cs ks h;rw[List.map_cons]at h;cases h with
    | cons y z ys zs is js h1 h2=>
      obtain⟨rfl,rfl⟩:=ih h2;cases h1;exact⟨rfl,rfl⟩
theorem Ow.A84{H:HP}{r:AV}{a:List Int}{ids:List Nat}(h:Ow H r (Go.Proofs.YtgknbnkmilddhaaGreat.ints a) ids)(hp:0<a.length):∃id,r= .h id 0 a.length/\ids=[id]/\H id=some (a.map (.i .i64)):=by
  unfold Go.Proofs.YtgknbnkmilddhaaGreat.ints at h;rcases h.dM _ _ rfl with ⟨e,_⟩|⟨_,e,_⟩|⟨id,cs,CU,rfl,rfl,g1,g2,g3⟩
  · subst e;cases h with
    | leaf _ hf hn=>cases a with
      |nil=>simp at hp
      |cons x xs=>cases hf
  · omega
  obtain⟨rfl,rfl⟩:=g3.eqI;exact⟨id,rfl,rfl,g1⟩
theorem Ow.Jk{H:HP}{r:AV}{n:Nat}{ts:List AV}{ids:List Nat}(h:Ow H r (.v n ts) ids)(hp:0<n):∃id cs CU,r= .h id 0 n/\ids=id::CU/\H id=some cs/\cs.length=n/\IH H cs ts CU:=by
  rcases h.dM _ _ rfl with ⟨e,_⟩|⟨_,e,_⟩|h
  · subst e;cases h with
    |leaf _ hf hn=>cases hf;omega
  · omega
  exact h
theorem pJ{α:Type}{cs:List α}{k:Nat}{d x:α}(hk:k<cs.length)(h:cs.getD k d=x):cs.set k x=cs:=by
  apply List.ext_getElem?;intro i;rw[List.getElem?_set];split
  · rename_i e;subst e;rw[<-h,List.getD_eq_getElem?_getD,List.getElem?_eq_getElem hk];rfl
  rfl
theorem Ow.A85{H:HP}{r:AV}{a:List Int}{ids:List Nat}{l:Nat}(h:Ow H r (Go.Proofs.YtgknbnkmilddhaaGreat.ints a) ids)(hl:l<a.length):
    ∃q,r= .h q 0 a.length/\ids=[q]/\H q=some (a.map (.i .i64))/\∀v,Ow (AT H q (some (B3 (a.map (.i .i64)) l [.i .i64 v]))) r (Go.Proofs.YtgknbnkmilddhaaGreat.ints (a.set l v)) ids:=by
  obtain⟨q,rfl,rfl,h1⟩:=h.A84 A0;refine⟨q,rfl,rfl,h1,λv=>Ow.ints ?_ AB⟩;rw[A4,lM (by simpa using hl),List.map_set]
theorem Ow.Jl{H:HP}{r:AV}{W:List (List Int)}{ids:List Nat}{k l:Nat}(h:Ow H r (rows W) ids)(D0:ids.Nodup)(hk:k<W.length)(hl:l<(W.getD k []).length):
    ∃ p rs q,r= .h p 0 W.length/\H p=some rs/\rs.length=W.length/\rs.getD k .j= .h q 0 (W.getD k []).length/\H q=some ((W.getD k []).map (.i .i64))/\p∈ids/\q∈ids/\p≠q/\
      ∀v,Ow (AT H q (some (B3 ((W.getD k []).map (.i .i64)) l [.i .i64 v]))) r (rows (W.set k ((W.getD k []).set l v))) ids:=by
  unfold rows at h;obtain⟨p,rs,js,rfl,rfl,h1,h2,h3⟩:=h.Jk A0;obtain⟨il,is,ir,rfl,s1,s2,s3⟩:=h3.cut (a:=k) A0;rw[BN hk]at s2;obtain⟨q,e,rfl,h4,h5⟩:=s2.A85 hl;obtain⟨mI,gR⟩:=List.nodup_cons.1 D0;simp only[List.mem_append,List.mem_singleton,not_or]at mI;have A2P:q∉il:=by simp only[List.nodup_append,List.mem_append,List.mem_singleton]at gR;grind
  have A2Q:q∉ir:=by simp only[List.nodup_append,List.mem_append,List.mem_singleton]at gR;grind
  refine⟨p,rs,q,rfl,h1,h2,e,h4,AB,AB,λe2=>mI.2.1 e2,λv=>?_⟩;have s4:=IH.set (s1.AJ λi hi=>A1 _ _ (λe2=>A2P (by rw[<-e2];exact hi))) (h5 v) (s3.AJ λi hi=>A1 _ _ (λe2=>A2Q (by rw[<-e2];exact hi))) (a:=k) A0 (by simpa using hk);rw[pJ A0 rfl]at s4;have:=Ow.h p rs _ _ ((A1 _ _ (λe2=>mI.2.1 e2)).trans h1) s4;rw[h2]at this;unfold rows;rw[List.length_set,List.map_set];exact this
theorem Ow.A2R{H:HP}{r:AV}{C:List (List (List Int))}{ids:List Nat}{c k l:Nat}(h:Ow H r (A6 C) ids)(D0:ids.Nodup)(hc:c<C.length)(hk:k<(C.getD c []).length)(hl:l<((C.getD c []).getD k []).length):
    ∃ b bs p rs q,r= .h b 0 C.length/\H b=some bs/\bs.length=C.length/\bs.getD c .j= .h p 0 (C.getD c []).length/\H p=some rs/\rs.length=(C.getD c []).length/\rs.getD k .j= .h q 0 ((C.getD c []).getD k []).length/\H q=some (((C.getD c []).getD k []).map (.i .i64))/\b∈ids/\p∈ids/\q∈ids/\(b≠p/\b≠q/\p≠q)/\
      ∀v,Ow (AT H q (some (B3 (((C.getD c []).getD k []).map (.i .i64)) l [.i .i64 v]))) r (A6 (C.set c ((C.getD c []).set k (((C.getD c []).getD k []).set l v)))) ids:=by
  unfold A6 at h;obtain⟨b,bs,js,rfl,rfl,h1,h2,h3⟩:=h.Jk A0;obtain⟨il,is,ir,rfl,s1,s2,s3⟩:=h3.cut (a:=c) A0;rw[DT hc]at s2;obtain⟨mI,gR⟩:=List.nodup_cons.1 D0;have ACB:is.Nodup:=by simp only[List.nodup_append,List.mem_append]at gR;grind
  obtain⟨p,rs,q,e,h4,h5,h6,h7,hp,hq,hpq,h8⟩:=s2.Jl ACB hk hl;simp only[List.mem_append,not_or]at mI;have A2P:q∉il:=by simp only[List.nodup_append,List.mem_append]at gR;grind
  have A2Q:q∉ir:=by simp only[List.nodup_append,List.mem_append]at gR;grind
  have LQ:b≠p:=λe2=>mI.2.1 (by rw[e2];exact hp)
  have Lz:b≠q:=λe2=>mI.2.1 (by rw[e2];exact hq)
  refine⟨b,bs,p,rs,q,rfl,h1,h2,e,h4,h5,h6,h7,AB,by simp[hp],by simp[hq],⟨LQ,Lz,hpq⟩,λv=>?_⟩;have s4:=IH.set (s1.AJ λi hi=>A1 _ _ (λe2=>A2P (by rw[<-e2];exact hi))) (h8 v) (s3.AJ λi hi=>A1 _ _ (λe2=>A2Q (by rw[<-e2];exact hi))) (a:=c) A0 (by simpa using hc);rw[pJ A0 rfl]at s4;have:=Ow.h b bs _ _ ((A1 _ _ Lz).trans h1) s4;rw[h2]at this;unfold A6;rw[List.length_set,List.map_set];exact this
section
variable{a m:Nat}{H:HP}{r P B:AV}{os:List Int}{X:List (List Int)}{Y:List (List (List Int))}
theorem EB.A86{k:Nat}(h:EB a m H r P B os X Y)(hk:k<os.length):∃q,r= .h q 0 os.length/\H q=some (os.map (.i .i64))/\(a<=q/\q<m)/\∀v,EB a m (AT H q (some (B3 (os.map (.i .i64)) k [.i .i64 v]))) r P B (os.set k v) X Y:=by
  obtain⟨i0,i1,i2,⟨h0,h1,h2⟩,D0,fQ⟩:=h;obtain⟨q,e,rfl,g1,g2⟩:=h0.A85 hk;have n1:q∉i1++i2:=(List.nodup_cons.1 D0).1;simp only[List.mem_append,not_or]at n1;exact⟨q,e,g1,fQ q AB,λv=>⟨[q],i1,i2,⟨g2 v,h1.AJ λi hi=>A1 _ _ (λe2=>n1.1 (by rw[<-e2];exact hi)),h2.AJ λi hi=>A1 _ _ (λe2=>n1.2 (by rw[<-e2];exact hi))⟩,D0,fQ⟩⟩
theorem EB.Jl{k l:Nat}(h:EB a m H r P B os X Y)(hk:k<X.length)(hl:l<(X.getD k []).length):
    ∃ p rs q,P= .h p 0 X.length/\H p=some rs/\rs.length=X.length/\rs.getD k .j= .h q 0 (X.getD k []).length/\H q=some ((X.getD k []).map (.i .i64))/\(a<=p/\p<m)/\(a<=q/\q<m)/\p≠q/\
      ∀v,EB a m (AT H q (some (B3 ((X.getD k []).map (.i .i64)) l [.i .i64 v]))) r P B os (X.set k ((X.getD k []).set l v)) Y:=by
  obtain⟨i0,i1,i2,⟨h0,h1,h2⟩,D0,fQ⟩:=h;have mI:i1.Nodup:=by simp only[List.nodup_append,List.mem_append]at D0;grind
  obtain⟨p,rs,q,e,g1,g2,g3,g4,g5,g6,g7,g8⟩:=h1.Jl mI hk hl;have n0:q∉i0:=by simp only[List.nodup_append,List.mem_append]at D0;grind
  have n2:q∉i2:=by simp only[List.nodup_append,List.mem_append]at D0;grind
  exact⟨p,rs,q,e,g1,g2,g3,g4,fQ p (by simp[g5]),fQ q (by simp[g6]),g7,λv=>⟨i0,i1,i2,⟨h0.AJ λi hi=>A1 _ _ (λe2=>n0 (by rw[<-e2];exact hi)),g8 v,h2.AJ λi hi=>A1 _ _ (λe2=>n2 (by rw[<-e2];exact hi))⟩,D0,fQ⟩⟩
theorem EB.A2R{c k l:Nat}(h:EB a m H r P B os X Y)(hc:c<Y.length)(hk:k<(Y.getD c []).length)(hl:l<((Y.getD c []).getD k []).length):
    ∃ b bs p rs q,B= .h b 0 Y.length/\H b=some bs/\bs.length=Y.length/\bs.getD c .j= .h p 0 (Y.getD c []).length/\H p=some rs/\rs.length=(Y.getD c []).length/\rs.getD k .j= .h q 0 ((Y.getD c []).getD k []).length/\H q=some (((Y.getD c []).getD k []).map (.i .i64))/\(a<=b/\b<m)/\(a<=p/\p<m)/\(a<=q/\q<m)/\(b≠p/\b≠q/\p≠q)/\
      ∀v,EB a m (AT H q (some (B3 (((Y.getD c []).getD k []).map (.i .i64)) l [.i .i64 v]))) r P B os X (Y.set c ((Y.getD c []).set k (((Y.getD c []).getD k []).set l v))):=by
  obtain⟨i0,i1,i2,⟨h0,h1,h2⟩,D0,fQ⟩:=h;have gR:i2.Nodup:=by simp only[List.nodup_append,List.mem_append]at D0;grind
  obtain⟨b,bs,p,rs,q,e,g1,g2,g3,g4,g5,g6,g7,g8,g9,g10,g11,g12⟩:=h2.A2R gR hc hk hl;have n0:q∉i0:=by simp only[List.nodup_append,List.mem_append]at D0;grind
  have n1:q∉i1:=by simp only[List.nodup_append,List.mem_append]at D0;grind
  exact⟨b,bs,p,rs,q,e,g1,g2,g3,g4,g5,g6,g7,fQ b (by simp[g8]),fQ p (by simp[g9]),fQ q (by simp[g10]),g11,λv=>⟨i0,i1,i2,⟨h0.AJ λi hi=>A1 _ _ (λe2=>n0 (by rw[<-e2];exact hi)),h1.AJ λi hi=>A1 _ _ (λe2=>n1 (by rw[<-e2];exact hi)),g12 v⟩,D0,fQ⟩⟩
theorem EB.ACC{a' m' k:Nat}{H':HP}{r1:AV}{W:List (List Int)}{is:List Nat}(h:EB a m H r P B os X Y)(hk:k<Y.length):∃b bs,B= .h b 0 Y.length/\H b=some bs/\bs.length=Y.length/\(a<=b/\b<m)/\
      (Ow H' r1 (rows W) is->is.Nodup->(∀i∈is,(i<a\/m<=i)/\a'<=i/\i<m')->H' b=some (B3 bs k [r1])->(∀i,a<=i->i<m->i≠b->H' i=H i)->m<=m'->a'<=a->EB a' m' H' r P B os X (Y.set k W)):=by
  obtain⟨i0,i1,i2,⟨h0,h1,h2⟩,h3,h4⟩:=h;unfold A6 at h2;obtain⟨b,bs,js,rfl,rfl,g1,g2,g3⟩:=h2.Jk A0;refine⟨b,bs,rfl,g1,g2,h4 b AB,λho D0 hb hp' GF hm Ux=>?_⟩;have gR:(b::js).Nodup:=by simp only[List.nodup_append,List.mem_append]at h3;grind
  obtain⟨w1,w2,l2,l3,w3,w4,w5,w6,w7⟩:=h2.A2N g1 A0 ho hp' (λi hi=>GF i (h4 i (by simp only[List.mem_append];exact .inr (.inr hi))).1 (h4 i (by simp only[List.mem_append];exact .inr (.inr hi))).2) gR;have AQ:∀i,i∈i0\/i∈i1->i≠b:=by
    intro i hi e;subst e;simp only[List.nodup_append,List.nodup_cons,List.mem_append,List.mem_cons]at h3;grind
  refine⟨i0,i1,b::(l2++(is++l3)),⟨h0.AJ λi hi=>GF i (h4 i (by simp[hi])).1 (h4 i (by simp[hi])).2 (AQ i (.inl hi)),h1.AJ λi hi=>GF i (h4 i (by simp[hi])).1 (h4 i (by simp[hi])).2 (AQ i (.inr hi)),?_⟩,?_,?_⟩
  · unfold A6;rw[List.length_set,List.map_set];exact w7
  · have h5:∀i∈i0++(i1++b::js),a<=i/\i<m:=h4;simp only[List.nodup_append,List.nodup_cons,List.mem_append,List.mem_cons]at h3 h5 w3 w5 w6 ⊢;grind
  intro i hi;simp only[List.mem_append,List.mem_cons]at hi h4 w3;grind
theorem EB.ACD{a' m':Nat}{H':HP}{r1:AV}{MS:List Int}{is:List Nat}(h:EB a m H r P B os X Y)(ho:Ow H' r1 (ints MS) is)(D0:is.Nodup)(hb:∀i∈is,(i<a\/m<=i)/\a'<=i/\i<m')(GF:∀i,a<=i->i<m->bk r≠i+1->H' i=H i)(hr:gO r=true)(hm:m<=m')(Ux:a'<=a):EB a' m' H' r1 P B MS X Y:=by
  obtain⟨i0,i1,i2,⟨h0,h1,h2⟩,h3,h4⟩:=h;have AQ:∀i,i∈i1\/i∈i2->bk r≠i+1:=by
    intro i hi e;have:i∈i0:=by
      unfold Go.Proofs.YtgknbnkmilddhaaGreat.ints at h0;rcases h0.dM _ _ rfl with ⟨rfl,_⟩|⟨rfl,_⟩|⟨q,cs,CU,rfl,rfl,_⟩
      · cases hr
      · cases e
      simp only[bk]at e;simp;omega
    simp only[List.nodup_append,List.mem_append]at h3;grind
  refine⟨is,i1,i2,⟨ho,h1.AJ λi hi=>GF i (h4 i (by simp[hi])).1 (h4 i (by simp[hi])).2 (AQ i (.inl hi)),h2.AJ λi hi=>GF i (h4 i (by simp[hi])).1 (h4 i (by simp[hi])).2 (AQ i (.inr hi))⟩,?_,?_⟩
  · have h5:∀i∈i0++(i1++i2),a<=i/\i<m:=h4;simp only[List.nodup_append,List.mem_append]at h3 h5 ⊢;grind
  intro i hi;simp only[List.mem_append]at hi h4;grind
theorem EB.fz{n:Nat}(h:EB a m H r P B os X Y)(hn:n<=a):Fz H (JI n H) (.g [r,P,B]) (AP os X Y):=by
  obtain⟨i0,i1,i2,⟨h0,h1,h2⟩,h3,h4⟩:=h;have hz:∀i∈i0++(i1++i2),JI n H i=none:=λi hi=>QD (by have:=h4 i hi;omega)
  refine .g _ _ rfl λk x y hx hy=>?_
  match k,hx,hy with
  |0,hx,hy=>cases hx;cases hy;exact h0.QC λi hi=>hz i (by simp[hi])
  |1,hx,hy=>cases hx;cases hy;exact h1.QC λi hi=>hz i (by simp[hi])
  |2,hx,hy=>cases hx;cases hy;exact h2.QC λi hi=>hz i (by simp[hi])
theorem EB.MR(h:EB a m H r P B os X Y):one r=true/\one P=true/\one B=true:=by
  obtain⟨i0,i1,i2,⟨h0,h1,h2⟩,h3,h4⟩:=h;exact⟨h0.slice.2.1,h1.slice.2.1,h2.slice.2.1⟩
end
end Go.Proofs.YtgknbnkmilddhaaGreat
