import Derived.Test.YtgknbnkmilddhaaGreatZ12
set_option linter.all false

open Go.Proofs.Tryz
namespace Go.Proofs.YtgknbnkmilddhaaGreat
def Q2:Nat->Nat->List (List Nat)
 |0,_=>[[]]
 |k+1,n=>(List.range' k (n-k)).flatMap λlast=>(Q2 k last).map λc=>c++[last]
def Lp(l:List Nat):List AV:=l.map λx:Nat=>AV.i .i64 (x:Int)
def AJX{l x}:Lp (l++[x])=Lp l++[.i .i64 (x:Int)]:=by simp[Lp]
def qZ{l}:(Lp l).length=l.length:=by simp[Lp]
def W9:∀k n,∀l∈Q2 k n,l.length=k
 |0,n,l,h=>by rw[Q2,BY]at h;rw[h];rfl
 | k+1,n,l,h=>by
   rw[Q2,DM]at h;obtain⟨last,_,h⟩:=h;obtain⟨c,hc,rfl⟩:=AQ.1 h;rw[AH,W9 k last c hc];rfl
def Qq(D:Nat->Prop)(H:HP)(L:AV)(cs:List AV):Prop:=(L= .nl/\cs=[])\/∃id,L= .h id 0 cs.length/\H id=some cs/\D id
structure ChC(D:Nat->Prop)(H:HP)(cs:List AV)(W:List (List Nat)):Prop where
 len:cs.length=W.length
 at_:∀i,i<W.length->Qq D H (cs.getD i .j) (Lp (W.getD i []))
 ne:∀i j,i<W.length->j<W.length->i≠j->bk (cs.getD i .j)=0\/bk (cs.getD i .j)≠bk (cs.getD j .j)
def Qr(D:Nat->Prop)(H:HP)(r:AV)(W:List (List Nat)):Prop:=∃cs,Qq D H r cs/\ChC D H cs W/\∀i,i<W.length->bk (cs.getD i .j)=0\/bk (cs.getD i .j)≠bk r
def Qq.lc{D H L cs a b}(h:Qq D H L cs)(hD:∀i,D i->a<=i/\i<b):LC H a b L cs:=by
 rcases h with h|⟨id,h1,h2,h3⟩
 ·exact .inl h
 exact .inr ⟨id,h1,h2,(hD id h3).1,(hD id h3).2⟩
def Qq.BV{D D' H H' L cs}(h:Qq D H L cs)(hk:∀i,D i->bk L=i+1->H' i=H i)(hD:∀i,D i->bk L=i+1->D' i):Qq D' H' L cs:=by
 rcases h with h|⟨id,rfl,h2,h3⟩
 ·exact .inl h
 exact .inr ⟨id,rfl,by rw[hk id h3 rfl];exact h2,hD id h3 rfl⟩
def Qq.bk{D H L cs}(h:Qq D H L cs):Go.Proofs.YtgknbnkmilddhaaGreat.bk L=0\/∃i,Go.Proofs.YtgknbnkmilddhaaGreat.bk L=i+1/\D i:=by
 rcases h with ⟨rfl,_⟩|⟨id,rfl,h2,h3⟩
 ·exact .inl rfl
 exact .inr ⟨id,rfl,h3⟩
def Qr.nil{D H}:Qr D H .nl []:=⟨[],.inl ⟨rfl,rfl⟩,⟨rfl,λi hi=>by simp at hi,λi j hi=>by simp at hi⟩,λi hi=>by simp at hi⟩
def Qr.BV{D D' H H' r W}(h:Qr D H r W)(hk:∀i,D i->H' i=H i)(hD:∀i,D i->D' i):Qr D' H' r W:=by
 obtain⟨cs,h1,⟨h2,h3,h4⟩,h5⟩:=h;exact⟨cs,h1.BV (λi hi _=>hk i hi) (λi hi _=>hD i hi),⟨h2,λi hi=>(h3 i hi).BV (λi hi _=>hk i hi) (λi hi _=>hD i hi),h4⟩,h5⟩
def Qr.push{D D' H H' r W cs}(h1:Qq D H r cs)(h2:ChC D H cs W)(h3:∀i,i<W.length->bk (cs.getD i .j)=0\/bk (cs.getD i .j)≠bk r){p q l}(hk:∀i,D i->bk r≠i+1->H' i=H i)(hD:∀i,D i->D' i)(hp:H' p=some (Lp l))(hq:H' q=some (cs++[.h p 0 l.length]))(hpD:D' p)(hqD:D' q)(hpn:¬D p)(hqn:¬D q)(hpq:p≠q):
    Qr D' H' (.h q 0 (W.length+1)) (W++[l]):=by
  have hl:=h2.len;have gl:∀i,i<W.length->(cs++[AV.h p 0 l.length]).getD i .j=cs.getD i .j:=λi hi=>by
    rw[A5,F3 A0,A5]
  have gn:(cs++[AV.h p 0 l.length]).getD W.length .j= .h p 0 l.length:=by
    rw[A5,EA A0,hl];simp
  have wl:∀i,i<W.length->(W++[l]).getD i []=W.getD i []:=λi hi=>by
    rw[A5,F3 hi,A5]
  have wn:(W++[l]).getD W.length []=l:=by rw[A5,EA (A1 _)];simp
  have nb:∀i,i<W.length->bk (cs.getD i .j)≠p+1/\bk (cs.getD i .j)≠q+1:=λi hi=>by
    rcases (h2.at_ i hi).bk with e|⟨d,e,hd⟩
    · rw[e];omega
    rw[e];exact⟨λx=>hpn ((show d=p by omega)▸hd),λx=>hqn ((show d=q by omega)▸hd)⟩
  refine⟨cs++[.h p 0 l.length],.inr ⟨q,by rw[AH,hl];rfl,hq,hqD⟩,⟨by rw[AH,AH,hl];rfl,λi hi=>?_,λi j hi hj Q3=>?_⟩,λi hi=>?_⟩
  · rw[AH,E3]at hi;by_cases e:i=W.length
    · subst e;rw[gn,wn];exact .inr ⟨p,by rw[qZ],hp,hpD⟩
    have OQ:i<W.length:=A0;rw[gl i OQ,wl i OQ];exact(h2.at_ i OQ).BV (λd hd e=>hk d hd (by rcases h3 i OQ with h|h<;>omega)) λd hd _=>hD d hd
  · rw[AH,E3]at hi hj;by_cases e:i=W.length
    · subst e;rw[gn,gl j A0];exact .inr λx=>(nb j A0).1 x.symm
    by_cases e':j=W.length
    · subst e';rw[gn,gl i A0];exact .inr (nb i A0).1
    rw[gl i A0,gl j A0];exact h2.ne i j A0 A0 Q3
  rw[AH,E3]at hi;by_cases e:i=W.length
  · subst e;rw[gn];exact .inr (by show p+1≠q+1;omega)
  rw[gl i A0];exact .inr (nb i A0).2
def Vu{Γ ty H a b L cs k}(h:LC H a b L cs){e}(Jp:Γ ty=some e){el}(he:e.d= .slice el):a8 Γ ty L k=k (.i .i64 cs.length):=by
 unfold a8;rw[Jp];simp only[sD,he];rcases h with ⟨rfl,rfl⟩|⟨id,rfl,_,_,_⟩<;>rfl
def A6O(Γ:KT)(ty:TypeId)(x:AV)(k:AV->Prop):Prop:=a8 Γ ty x k
@[congr] theorem AN1 {Γ ty x x' k}(h:x=x'):A6O Γ ty x k=A6O Γ ty x' k:=by rw[h]
def ADU{Γ P x ty NJ dst id s K}:SZ Γ P dst (.call ⟨.builtin .len,[x].toArray,(ty::NJ).toArray⟩) id s K=A6O Γ ty (FK s.t x) λr=>K ⟨EX s.t dst r,s.H,s.nx⟩:=Zm
def chP(k x:Nat):List (List Nat):=(List.range' k x).flatMap λlast=>(Q2 k last).map λc=>c++[last]
def A9J{k x}:chP k (x+1)=chP k x++(Q2 k (k+x)).map λc=>c++[k+x]:=by
 unfold chP;rw[List.range'_concat,F4,Nat.one_mul];simp
def Bf{k B}(hB:∀n,n<=16->(Q2 k n).length<=B):∀x,k+x<=17->(chP k x).length<=x*B
 |0,_=>by simp[chP]
 | x+1,h=>by
   have h1:=Bf hB x A0;have h2:=hB (k+x) A0;rw[A9J,AH,A4,I6];omega
def Bg{k n}:Q2 (k+1) n=chP k (n-k):=rfl
def jR:∀k n,n<=16->(Q2 k n).length<=16^k
 |0,n,_=>by simp[Q2]
 | k+1,n,h=>by
   rcases SB n k with q|q
   ·rw[Bg,show n-k=0 by omega];simp[chP]
   have h1:=Bf (k:=k) (B:=16^k) (λn hn=>jR k n hn) (n-k) A0;have h2:(n-k)*16^k<=16*16^k:=LY _ A0;rw[Bg,HJ,P8 (16^k)];omega
def ADV{i o n}:(∀z∈ [AV.h i o n],one z=true)=True:=FE rfl
def chK(nx m:Nat)(H H':HP)(r:AV)(W:List (List Nat)):Prop:=(nx<=m/\∀i,i<nx->H' i=H i)/\Qr (λi=>nx<=i/\i<m) H' r W
def Qq.len{D H L cs}(h:Qq D H L cs):rY L=cs.length/\one L=true:=by
 rcases h with ⟨rfl,rfl⟩|⟨id,rfl,_,_⟩<;>exact⟨rfl,rfl⟩
def jS(n:Nat)(nx:Nat)(H:HP):AC prog 192 nx H [.i .i64 n,.i .i64 (0:Nat)] (λDI H' r=>chK nx DI H H' r (Q2 0 n)):=by
 refine CF AY func192 rfl AP ntmps192 results192 (λGM cX=>?_)
 refine CT ?_;refine A6 λN1 CW=>CT ?_;refine HU rfl ?_;refine CT ?_;refine BQ ?_;refine⟨_,Le.refl _,⟨A0,λi hi=>AB _ _ A0⟩,[.nl],.inr ⟨_,rfl,AD _ _ _,A0,A0⟩,⟨rfl,λi hi=>?_,λi j hi hj Q3=>?_⟩,λi hi=>?_⟩
 ·obtain rfl:i=0:=by simpa[Q2]using hi
  exact .inl ⟨rfl,rfl⟩
 ·simp[Q2]at hi hj;omega
 obtain rfl:i=0:=by simpa[Q2]using hi
 exact .inl rfl
set_option maxHeartbeats 4000000 in
def jT(k:Nat)(hk:k+1<=4)(ih:∀(n:Nat),n<=12->∀nx H,AC prog 192 nx H [.i .i64 n,.i .i64 k] (λDI H' r=>chK nx DI H H' r (Q2 k n)))(n:Nat)(hn:n<=12)(nx:Nat)(H:HP):AC prog 192 nx H [.i .i64 n,.i .i64 (k+1:Nat)] (λDI H' r=>chK nx DI H H' r (Q2 (k+1) n)):=by
 refine CF AY func192 rfl AP ntmps192 results192 (λGM cX=>?_)
 refine CT ?_;refine A6 λN1 CW=>CT ?_;refine DJ rfl ?_;apply AF;apply CW;refine CT ?_;refine A6 λN2 DN=>CT ?_;refine AA<|AM (α:=Nat×HP×AV) (λx=>sl 37 [(0,.i .i64 n),(1,.i .i64 (k+1:Nat)),(5,x.2.2),(6,.i .i64 (k+x.1:Nat))]) (λx=>x.2.1) (λx m=>(x.1<=n-k/\nx<=m)/\chK nx m H x.2.1 x.2.2 (chP k x.1)) (λx=>n-k-x.1) ((0,H,.nl)) ?_ ?_ (λ_ _ h=>h) ?_
 ·exact⟨⟨B5,AI⟩,⟨AI,λ_ _=>rfl⟩,Qr.nil⟩
 ·exact E2
 rintro⟨u,G,O⟩ m0 ⟨⟨hx,hm⟩,⟨_,hG⟩,hO⟩
 dsimp only at hx hm hG hO ⊢
 refine BH ?_;refine A6 λN3 DO=>CT ?_;refine AK ?_ ?_<;>intro h1
 ·have lI:k+u<n:=A0;have Oh:((k+1:Nat):Int)-1=(k:Int):=A0;apply AF;apply DO;refine A6 λN4 FD=>AA<|sQ λN hN=>?_;refine eK Oh ?_;refine(ih (k+u) A0 _ _).mono ?_
  rintro yK H1 r ⟨⟨VW,eG⟩,cs0,Ik,hc0,hd0⟩;obtain⟨VX,UF⟩:=Ik.len;have KW:=hc0.len;have hlen:∀k,A6O env 114 r k=k (.i .i64 cs0.length):=λk=>Vu (Ik.lc λ_ h=>h) rfl rfl
  (try simp-dsimp-implicitDefEqProofs(disch:=omega)only[go_sem,↓ADU,VX,UF,KW,hlen])
  apply hN;refine AA<|AM (α:=Nat×HP×AV) (λx=>sl 37 [(0,.i .i64 n),(1,.i .i64 (k+1:Nat)),(5,x.2.2),(6,.i .i64 (k+u:Nat)),(22,r),(23,.i .i64 (Q2 k (k+u)).length),(24,.i .i64 x.1)]) (λx=>x.2.1) (λx m=>(x.1<=(Q2 k (k+u)).length/\yK<=m/\∀i,i<nx->x.2.1 i=H i)/\Qq (λd=>m0+3+6<=d/\d<yK) x.2.1 r cs0/\(∀j,x.1<=j->j<(Q2 k (k+u)).length->Qq (λd=>m0+3+6<=d/\d<yK) x.2.1 (cs0.getD j .j) (Lp ((Q2 k (k+u)).getD j [])))/\Qr (λd=>(nx<=d/\d<m0+3+6)\/(yK<=d/\d<m)) x.2.1 x.2.2 (chP k u++((Q2 k (k+u)).take x.1).map λc=>c++[k+u])) (λx=>(Q2 k (k+u)).length-x.1) ((0,H1,O)) ?_ ?_ (λ_ _ h=>h) ?_
  ·exact⟨⟨B5,AI,λi h=>(eG i A0).trans (hG i h)⟩,Ik,λj _ hj=>hc0.at_ j hj,by rw[AS,BU,C5];exact hO.BV (λi h=>eG i A0) (λi h=> .inl A0)⟩
  ·exact E2
  rintro⟨i,G2,O2⟩ m2 ⟨⟨hi,Q8,Dj⟩,dJ,VL,cso,ho1,Xv,ho3⟩;dsimp only at hi Q8 Dj dJ VL ho1 Xv ho3 ⊢;refine BH ?_;refine CT ?_;refine A6 λN5 ID=>AK ?_ ?_<;>intro h2
  ·have iI:i<(Q2 k (k+u)).length:=A0;obtain⟨id0,pG,AJY,gL⟩:∃id,r= .h id 0 cs0.length/\G2 id=some cs0/\(m0+3+6<=id/\id<yK):=by
    rcases dJ with ⟨_,e⟩|h
    ·rw[e]at KW;simp at KW;omega
    exact h
   subst pG;have hci:=VL i (A1 i) iI;obtain⟨c,wV⟩:=EK (cs0.getD i .j);obtain⟨l,hll⟩:=EK ((Q2 k (k+u)).getD i []);rw[wV,hll]at hci;obtain⟨AOW,o8⟩:=hci.len;obtain⟨AOX,ho4⟩:=ho1.len;have Xw:=hci.lc (a:=nx) (b:=m2) (λi h=>⟨A0,A0⟩);have Xx:=ho1.lc (a:=nx) (b:=m2) (λi h=>A0);have AOY:∀d,bk O2=d+1->bk c≠d+1:=λd e e'=>by
    rcases ho1.bk with q|⟨d1,q,S3⟩
    ·omega
    rcases hci.bk with q'|⟨d2,q',WZ⟩
    ·omega
    omega
   have A6P:LC (dl (CJ G2 (m2+1+3+3) (some [AV.i IntKind.i64 ((k+u:Nat):Int)])) c) nx m2 O2 cso:=Xx.RQ λd e=>by
    have hb:=Xx.bd;rw[DW (AOY d e),AB _ _ A0]
   have Ob:l.length=k:=W9 k (k+u) l (by rw[<-hll,A5,A9 iI];exact BK _);have hcB:(Q2 k (k+u)).length<=16^k:=jR k (k+u) A0;have hpB:=Bf (k:=k) (B:=16^k) (λn hn=>jR k n hn) u A0;have ARB:u*16^k<=16*16^k:=LY _ A0;have hp3:16^k<=16^3:=DE A0 A0;have AOZ:=Xv.len;rw[AH,A4,B1]at AOZ;have hnl:=qZ (l:=l);apply AF;apply ID;refine A6 λN6 OR=>AA<|sQ λN hN=>?_;simp-dsimp-implicitDefEqProofs(disch:=omega)only[go_sem,AJY,KW,wV];apply hN;apply rQ;simp-dsimp-implicitDefEqProofs(disch:=(first|omega|((repeat refine LC.CJ A0 ?_);assumption))) only[go_sem,o8,ho4,AOW,AOX,hnl,Ob,ADV,F2 (a:=nx) (b:=m2) (L:=c) (cs:=Lp l),F2 (a:=nx) (b:=m2) (L:=O2) (cs:=cso)]
   apply OR;refine BX (λG9 TI=>?_);dsimp only at TI;refine K4 ?_;refine BB (i+1,G9,.h (m2+1+3+6) 0 ((chP k u++((Q2 k (k+u)).take i).map λc=>c++[k+u]).length+1)) ?_ ?_ ?_
   ·exact FV
   ·have hkp:∀d,d<m2->bk c≠d+1->bk O2≠d+1->G9 d=G2 d:=λd q1 q2 q3=>by
     rw[<-TI,AB _ _ A0,DW q3,AB _ _ A0,AB _ _ A0,DW q2,AB _ _ A0]
    have hdc:∀d,bk c=d+1->m0+3+6<=d/\d<yK:=λd e=>by
     rcases hci.bk with q|⟨d1,q,S3⟩
     ·omega
     obtain rfl:d=d1:=A0;exact S3
    have hdo:∀d,bk O2=d+1->(nx<=d/\d<m0+3+6)\/(yK<=d/\d<m2):=λd e=>by
     rcases ho1.bk with q|⟨d1,q,S3⟩
     ·omega
     obtain rfl:d=d1:=A0;exact S3
    have A1S:=Qr.push (D':=λd=>(nx<=d/\d<m0+3+6)\/(yK<=d/\d<m2+1+3+8)) (H':=G9) (p:=m2+1+3+4) (q:=m2+1+3+6) (l:=l++[k+u]) ho1 Xv ho3 (λd hd hb=>hkp d A0 (λe=>by have:=hdc d e;omega) hb) (λd hd=>A0)
     (by rw[<-TI,AB _ _ A0,DW (λe=>by have:=hdo _ e;omega),AB _ _ A0,AD,AJX]) (by rw[<-TI,AD,AH,Ob];rfl) A0 A0 A0 A0 A0
    rw[BO]at A1S;have YA:((Q2 k (k+u)).take (i+1)).map (λc=>c++[k+u])=((Q2 k (k+u)).take i).map (λc=>c++[k+u])++[l++[k+u]]:=by
     rw[B7 iI,AZ,<-hll];simp[iI]
    rw[<-YA]at A1S;refine⟨⟨AI,λd hd=>?_⟩,.inr ⟨id0,rfl,?_,gL⟩,λj hj dA=>?_,?_⟩
    ·rw[<-Dj d hd];exact hkp d A0 (λe=>by have:=hdc d e;omega) (λe=>by have:=hdo d e;omega)
    ·rw[<-AJY];exact hkp id0 A0 (λe=>by have:=hd0 i iI;rw[wV]at this;exact this.elim (λq=>A0) (λq=>q e)) (λe=>by have:=hdo _ e;omega)
    ·have hj3:i+1<=j:=hj;exact(VL j A0 dA).BV (λd hd e=>hkp d A0 (λe'=>by have:=hc0.ne i j iI dA A0;rw[wV]at this;omega) (λe'=>by have:=hdo _ e';omega)) (λd hd _=>hd)
    exact A1S.BV (λ_ _=>rfl) (λd hd=>A0)
   exact AI
  obtain rfl:i=(Q2 k (k+u)).length:=A0;apply AO;apply FD;refine K4 ?_;refine BB (u+1,G2,O2) ?_ ?_ ?_
  ·exact FV
  ·refine⟨⟨AI,AI⟩,⟨AI,Dj⟩,?_⟩;have ho:Qr (λd=>(nx<=d/\d<m0+3+6)\/(yK<=d/\d<m2)) G2 O2 (chP k (u+1)):=by
    rw[A9J];rw[B2]at Xv ho3;exact⟨cso,ho1,Xv,ho3⟩
   exact ho.BV (λ_ _=>rfl) (λd hd=>AI)
  exact AI
 obtain rfl:u=n-k:=A0
 apply AO;apply DN;refine CT ?_;refine BQ ?_;exact⟨G,Le.refl _,⟨A0,hG⟩,by rw[Bg];exact hO.BV (λ_ _=>rfl) (λd hd=>A0)⟩
def ZB:∀(k:Nat),k<=4->∀(n:Nat),n<=12->∀nx H,AC prog 192 nx H [.i .i64 n,.i .i64 k] (λDI H' r=>chK nx DI H H' r (Q2 k n))
 |0,_,n,_,nx,H=>jS n nx H
 |k+1,hk,n,hn,nx,H=>jT k hk (ZB k A0) n hn nx H
def Dn(W:List (List Nat)):D4:=W.map λl=>l.map λx:Nat=>(x:Int)
def Qr.vw{D H r W}(h:Qr D H r W):Vw H r (rows (Dn W)):=by
 obtain⟨cs,h1,h2,_⟩:=h;have hl:=h2.len;have hw:(Dn W).length=W.length:=by simp[Dn]
 unfold rows;rcases h1 with ⟨rfl,e⟩|⟨id,rfl,GF,_⟩
 ·have:W=[]:=AX.1 (by rw[<-hl,e];rfl);subst this;exact .nl
 rw[hl,hw];refine .h id 0 _ cs _ GF A0 (by simp[Dn]) λk x y hx hy=>?_
 rw[BS]at hx;have hk:k<W.length:=by have:=(AL.1 hx).1;omega
 have e1:cs.getD k .j=x:=by rw[A5,hx];rfl
 have e2:y=ints ((W.getD k []).map λx:Nat=>(x:Int)):=by
  have:(Dn W)[k]? =some ((W.getD k []).map λx:Nat=>(x:Int)):=by simp[Dn,hk]
  rw[BF,this]at hy;exact(F5 hy).symm
 have h3:=h2.at_ k hk;rw[e1]at h3;rw[e2];have e3:Lp (W.getD k [])=((W.getD k []).map λx:Nat=>(x:Int)).map (.i .i64):=by simp[Lp]
 rw[e3]at h3;rcases h3 with ⟨rfl,e⟩|⟨L7,rfl,UY,_⟩
 ·have:(W.getD k []).map (λx:Nat=>(x:Int))=[]:=GY.1 e;rw[this];exact .nl
 exact cF UY (by rw[A4])
def bC(k:Nat)(hk:k<=4)(n:Nat)(hn:n<=12):DZ prog 192 [.i .i64 n,.i .i64 k] (rows (Dn (Q2 k n))):=
 DZ.A65 (zT _) λnx=>(ZB k hk n hn nx DD).mono λ_ _ _ h=>h.2.vw
def xA(l:List Nat):AV:= .v l.length (Lp l)
def Qs{X i}(h:i<X.length):((Dn X).map ints).getD i .j=xA (X.getD i []):=by
 simp[Dn,h,ints,xA,Lp]
def Qt{l a}(h:a<l.length):(Lp l).getD a .j= .i .i64 (l.getD a 0:Nat):=by simp[Lp,h]
def rA{X}:(Dn X).length=X.length:=by simp[Dn]
def jU(W:D4)(i j:Nat):Int:=(W.getD i []).getD j 0
def S7(W:D4)(I J:List Nat):D4:=I.map λr=>J.map λc=>jU W r c
def xQ(W:D4)(k:Nat)(Y:List (List Nat))(I:List Nat)(g:Nat)(j:Nat):Nat:=(Y.take j).foldl (λg J=>Nat.gcd g (mP k (S7 W I J)).natAbs) g
def xB(W:D4)(k:Nat)(X Y:List (List Nat))(i:Nat):Nat:=(X.take i).foldl (λg I=>xQ W k Y I g Y.length) 0
def A9K{W k Y I g j}(h:j<Y.length):xQ W k Y I g (j+1)=Nat.gcd (xQ W k Y I g j) (mP k (S7 W I (Y.getD j []))).natAbs:=by
 unfold xQ;rw[B7 h,L1];simp[h]
def A9L{W k X Y i}(h:i<X.length):xB W k X Y (i+1)=xQ W k Y (X.getD i []) (xB W k X Y i) Y.length:=by
 unfold xB;rw[B7 h,L1];simp[h]
def tbP(n:Nat)(W:D4):Prop:=W.length<=12/\n<=4/\∀r∈W,r.length=n/\∀x∈r,-64<=x/\x<=64
def mR:∀k n,∀l∈Q2 k n,∀x∈l,x<n
 |0,n,l,h,x,hx=>by rw[Q2,BY]at h;subst h;simp at hx
 | k+1,n,l,h,x,hx=>by
   rw[Q2,DM]at h;obtain⟨last,hl,h⟩:=h;obtain⟨c,hc,rfl⟩:=AQ.1 h;have TT:=List.mem_range'_1.1 hl;rcases AG.1 hx with q|q
   ·have:=mR k last c hc x q;omega
   rw[BY]at q;omega
def tbP.sub{n W}(h:tbP n W){k I J}(hI:I∈Q2 k W.length)(hJ:J∈Q2 k n):sqP k (S7 W I J):=by
 refine⟨by rw[S7,A4];exact W9 _ _ _ hI,λr hr=>?_⟩;obtain⟨i,hi,rfl⟩:=AQ.1 hr;refine⟨by rw[A4];exact W9 _ _ _ hJ,λx hx=>?_⟩;obtain⟨j,hj,rfl⟩:=AQ.1 hx;have iI:=mR _ _ _ hI i hi;have Em:=mR _ _ _ hJ j hj;have hm:W.getD i []∈W:=by rw[A5,A9 iI];exact BK _
 obtain⟨h1,h2⟩:=h.2.2 _ hm;show-64<=(W.getD i []).getD j 0/\(W.getD i []).getD j 0<=64
 exact h2 _ (by rw[A5 (l:=W.getD i []),A9 (l:=W.getD i []) A0];exact BK _)
def Bh{W k Y I B}(hB:∀J∈Y,(mP k (S7 W I J)).natAbs<=B){g}(hg:g<=B):∀j,xQ W k Y I g j<=B
 |0=>by simpa[xQ]using hg
 | j +1=>by
   by_cases h:j<Y.length
   ·rw[A9K h];have h1:=Bh hB hg j;have h2:=hB (Y.getD j []) (by rw[A5,A9 h];exact BK _);rcases II (xQ W k Y I g j)with q|q
    ·rw[q,Nat.gcd_zero_left];exact h2
    exact CH (Nat.gcd_le_left _ q) h1
   have e:xQ W k Y I g (j+1)=xQ W k Y I g j:=by unfold xQ;rw[AJ A0,AJ A0]
   rw[e];exact Bh hB hg j
def QR{α:Type}{l:List α}{i:Nat}{d:α}(h:i<l.length):l.getD i d∈l:=by rw[A5,A9 h];exact BK _
def Lq{n W}(h:tbP n W){k}(hk:k<=4):∀i,i<=(Q2 k W.length).length->xB W k (Q2 k W.length) (Q2 k n) i<=402653184
 |0,_=>by simp[xB]
 | i+1,hi=>by
   rw[A9L A0];refine Bh (λJ hJ=>?_) (Lq h hk i A0) _;have:=mQ k _ (h.sub (QR (d:=[]) (show i<(Q2 k W.length).length by omega)) hJ);have:=A1R hk;omega
set_option maxHeartbeats 2000000 in
def ZT(n:Nat)(W:D4)(h:tbP n W)(k:Nat)(hk:k<=4):DZ prog 140 [fp n W,.i .i64 k] (.i .i64 (xB W k (Q2 k W.length) (Q2 k n) (Q2 k W.length).length:Nat)):=by
 obtain⟨X,hX⟩:=EK (Q2 k W.length)
 obtain⟨Y,hY⟩:=EK (Q2 k n)
 have dE:=rA (X:=X)
 have Fw:=rA (X:=Y)
 have hcX:=bC k hk W.length h.1
 have hcY:=bC k hk n (by have:=h.2.1;omega)
 have hXm:∀I∈X,I.length=k/\∀x∈I,x<W.length:=λI hI=>by rw[<-hX]at hI;exact⟨W9 _ _ _ hI,mR _ _ _ hI⟩
 have hYm:∀J∈Y,J.length=k/\∀x∈J,x<n:=λJ hJ=>by rw[<-hY]at hJ;exact⟨W9 _ _ _ hJ,mR _ _ _ hJ⟩
 have fS:∀I∈X,∀J∈Y,sqP k (S7 W I J):=λI hI J hJ=>h.sub (by rw[hX];exact hI) (by rw[hY];exact hJ)
 have jV:=Lq h hk
 rw[hX]at jV hcX
 rw[hY]at jV hcY
 have hXc:X.length<=16^4:=by rw[<-hX];exact CH (jR k W.length (by have:=h.1;omega)) (DE A0 hk)
 have hYc:Y.length<=16^4:=by rw[<-hY];exact CH (jR k n (by have:=h.2.1;omega)) (DE A0 hk)
 have AP0:=h.1
 have hn4:=h.2.1
 rw[hX,hY]
 refine BI AY func140 rfl AP ntmps140 results140 (.i _ _) (λnx cX=>?_)
 refine PT ?_;refine BN 2 nx _ rfl (AD _ _ _) ?_
 refine BH ?_;refine PT ?_;refine A6 λN1 CW=>Ks (hcX) ?_;refine AA<|AM (α:=Nat) (λx=>sl 71 [(1,.i .i64 k),(2,.p 0 [.i .i64 n,rows W]),(5,.i .i64 (xB W k X Y x:Nat)),(20,rows (Dn X)),(21,.i .i64 X.length),(22,.i .i64 x)]) (λ_=>DD) (λx m=>x<=X.length/\nx<=m) (λx=>X.length-x) (0) ?_ ?_ ((by intro d cs hd;cases hd)) ?_
 ·exact⟨A0,AI⟩
 ·simp(disch:=omega) [EJ,EN,sl,rows,fp,xB,rA]
 rintro i m ⟨hi,hm⟩
 refine BH ?_;refine PT ?_;refine A6 λN2 DN=>AK ?_ ?_<;>intro h1
 ·have hgX:=Qs (X:=X) (show i<X.length by omega);obtain⟨I,hI⟩:=EK (X.getD i []);have hIm:I∈X:=by rw[<-hI];exact QR A0
  have hIk:=hXm I hIm;rw[hI]at hgX;apply AF;apply DN;refine A6 λN3 DO=>AA<|sQ λN hN=>?_;simp-dsimp-implicitDefEqProofs(disch:=omega)only[go_sem,fp,xA,rows,hgX];apply hN;refine Ks (hcY) ?_;refine AA<|AM (α:=Nat) (λx=>sl 71 [(1,.i .i64 k),(2,.p 0 [.i .i64 n,rows W]),(5,.i .i64 (xQ W k Y I (xB W k X Y i) x:Nat)),(7,xA I),(20,rows (Dn X)),(21,.i .i64 X.length),(22,.i .i64 i),(29,rows (Dn Y)),(30,.i .i64 Y.length),(31,.i .i64 x)]) (λ_=>DD) (λx m=>x<=Y.length/\nx<=m) (λx=>Y.length-x) (0) ?_ ?_ (λ_ _ h=>h) ?_
  ·exact⟨A0,AI⟩
  ·simp(disch:=omega) [EJ,EN,sl,rows,fp,xA,xQ,rA]
  rintro j m2 ⟨hj,Q8⟩;simp only[xA];refine BH ?_;refine PT ?_;refine A6 λN4 FD=>AK ?_ ?_<;>intro h2
  ·have hgY:=Qs (X:=Y) (show j<Y.length by omega);obtain⟨J,hJ⟩:=EK (Y.getD j []);have hJm:J∈Y:=by rw[<-hJ];exact QR A0
   have hJk:=hYm J hJm;rw[hJ]at hgY;apply AF;apply FD;refine A6 λN5 ID=>AA<|sQ λN hN=>?_;simp-dsimp-implicitDefEqProofs(disch:=omega)only[go_sem,fp,xA,rows,hgY];apply hN;refine PT ?_;refine A6 λN6 OR=>PT ?_;refine AA<|AM (α:=Nat×HP×AV) (λx=>sl 71 [(1,.i .i64 k),(2,.p 0 [.i .i64 n,rows W]),(5,.i .i64 (xQ W k Y I (xB W k X Y i) j:Nat)),(7,xA I),(9,xA J),(10,x.2.2),(20,rows (Dn X)),(21,.i .i64 X.length),(22,.i .i64 i),(29,rows (Dn Y)),(30,.i .i64 Y.length),(31,.i .i64 j),(35,xA I),(36,.i .i64 I.length),(37,.i .i64 x.1)]) (λx=>x.2.1) (λx m=>(x.1<=I.length/\nx<=m)/\LC x.2.1 nx m x.2.2 (((S7 W I J).take x.1).map ints)) (λx=>I.length-x.1) ((0,DD,.nl)) ?_ ?_ (λ_ _ h=>h) ?_
   ·exact⟨⟨B5,AI⟩,by simpa using LC.nil⟩
   ·simp(disch:=omega) [EJ,EN,sl,rows,fp,xA]
   rintro⟨a,G,L⟩ m3 ⟨⟨ha,U5⟩,hL⟩;dsimp only at ha U5 hL ⊢;have hsl:(S7 W I J).length=I.length:=by simp[S7]
   have hL1:=hL.one;have YC:=hL.len;rw[A4,B1,hsl,EF ha]at YC;simp only[xA];refine BH ?_;refine PT ?_;refine A6 λN7 S6=>AK ?_ ?_<;>intro h3
   ·have hgI:=Qt (l:=I) (show a<I.length by omega);obtain⟨r,hr⟩:=EK (I.getD a 0);have hrW:r<W.length:=hIk.2 r (by rw[<-hr];exact QR A0);rw[hr]at hgI;have Lr:=rwZ (W:=W) hrW;have VX:=(h.2.2 _ (QR (d:=[]) hrW)).1;apply AF;apply S6;refine A6 λN8 VK=>AA<|sQ λN hN=>?_;simp-dsimp-implicitDefEqProofs(disch:=omega)only[go_sem,fp,qZ,rows,hgI];apply hN;refine PT ?_;refine A6 λN9 ZW=>PT ?_;refine AA<|AM (α:=Nat×HP×AV) (λx=>sl 71 [(1,.i .i64 k),(2,.p 0 [.i .i64 n,rows W]),(5,.i .i64 (xQ W k Y I (xB W k X Y i) j:Nat)),(7,xA I),(9,xA J),(10,L),(12,.i .i64 r),(13,x.2.2),(20,rows (Dn X)),(21,.i .i64 X.length),(22,.i .i64 i),(29,rows (Dn Y)),(30,.i .i64 Y.length),(31,.i .i64 j),(35,xA I),(36,.i .i64 I.length),(37,.i .i64 a),(41,xA J),(42,.i .i64 J.length),(43,.i .i64 x.1)]) (λx=>x.2.1) (λx m=>(x.1<=J.length/\m3<=m)/\LC x.2.1 nx m3 L (((S7 W I J).take a).map ints)/\LC x.2.1 m3 m x.2.2 (((J.map λc=>jU W r c).take x.1).map (.i .i64))) (λx=>J.length-x.1) ((0,G,.nl)) ?_ ?_ (λ_ _ h=>h) ?_
    ·exact⟨⟨B5,AI⟩,hL,by simpa using LC.nil⟩
    ·simp(disch:=omega) [EJ,EN,sl,rows,fp,xA]
    rintro⟨b,G4,R⟩ m4 ⟨⟨hb,Xy⟩,hL4,hR⟩;dsimp only at hb Xy hL4 hR ⊢;have hR1:=hR.one;have Qp:=hR.len;rw[A4,B1,A4,EF hb]at Qp;simp only[xA];refine BH ?_;refine PT ?_;refine A6 λPf R9=>AK ?_ ?_<;>intro h4
    ·have hgJ:=Qt (l:=J) (show b<J.length by omega);obtain⟨c,hc⟩:=EK (J.getD b 0);have MC:c<n:=hJk.2 c (by rw[<-hc];exact QR A0);rw[hc]at hgJ;apply AF;apply R9;refine A6 λXo T3=>AA<|sQ λN hN=>?_;simp-dsimp-implicitDefEqProofs(disch:=omega)only[go_sem,fp,qZ,rows,hgJ];apply hN;apply rQ;simp-dsimp-implicitDefEqProofs(disch:=(first|omega|((repeat refine LC.CJ A0 ?_);assumption))) only[go_sem,fp,rows,Lr,hR1,Qp,A4,F2 (a:=m3) (b:=m4) (L:=R) (cs:=((J.map λc=>jU W r c).take b).map (.i .i64))]
     apply T3;refine BX (λG5 KK=>?_);dsimp only at KK;refine aR ?_;refine BB (b+1,G5,.h (m4+1+3+10) 0 (b+1)) ?_ ?_ ?_
     ·simp(disch:=omega) [EJ,EN,sl,rows,fp,xA]
     ·have hRb:=hR.bd;have Xz:=hL4.bd;have TC:LC G5 m3 (m4+1+3+11) (.h (m4+1+3+10) 0 (b+1)) (((J.map λc=>jU W r c).take (b+1)).map (.i .i64)):=LC.mk (by rw[<-KK,AD,B7 (by rw[A4];omega),AZ];simp[jU,<-hc,show b<J.length by omega]) (by rw[A4,B1,A4];omega) A0 A0;have Dp:LC G5 nx m3 L (((S7 W I J).take a).map ints):=hL4.RQ λd e=>by rw[<-KK,AB _ _ A0,DW A0,AB _ _ A0]
      first|exact⟨⟨AI,AI⟩,Dp,TC.wide (A1 _) A0⟩|exact⟨AI,Dp,TC.wide (A1 _) A0⟩
     exact AI
    obtain rfl:b=J.length:=A0;have YA:(J.map λc=>jU W r c).take J.length=J.map λc=>jU W r c:=AJ B5
    rw[YA]at hR;apply AO;apply ZW;refine jQ 13 R _ rfl hR ?_;have hL5:LC (dl G4 R) nx m3 L (((S7 W I J).take a).map ints):=hL4.RQ λd e=>by
     have q1:=hL4.bd;have q2:=hR.bd;exact DW A0
    have hv:AV.v (List.map (AV.i .i64) (J.map λc=>jU W r c)).length (List.map (AV.i .i64) (J.map λc=>jU W r c))=ints (J.map λc=>jU W r c):=by unfold ints;simp
    rw[hv];apply rQ;simp-dsimp-implicitDefEqProofs(disch:=(first|omega|((repeat refine LC.CJ A0 ?_);assumption))) only[go_sem,fp,rows,hL1,YC,F2 (a:=nx) (b:=m3) (L:=L) (cs:=((S7 W I J).take a).map ints),A4];apply VK;refine BX (λG6 uN=>?_);dsimp only at uN;refine aR ?_;refine BB (a+1,G6,.h (m4+1+3) 0 (a+1)) ?_ ?_ ?_
    ·simp(disch:=omega) [EJ,EN,sl,rows,fp,xA]
    ·have TC:LC G6 nx (m4+1+4) (.h (m4+1+3) 0 (a+1)) (((S7 W I J).take (a+1)).map ints):=LC.mk (by rw[<-uN,AD,B7 A0,AZ];simp[S7,<-hr,show a<I.length by omega]) (by rw[A4,B1];omega) A0 A0;first|exact⟨⟨AI,AI⟩,TC.wide (A1 _) A0⟩|exact⟨AI,TC.wide (A1 _) A0⟩
    exact AI
   obtain rfl:a=I.length:=A0;have YA:(S7 W I J).take I.length=S7 W I J:=AJ (by rw[hsl];omega);rw[YA]at hL;have hdb:=mQ k _ (fS I hIm J hJm);have ARC:=A1R hk;have hmb:xQ W k Y I (xB W k X Y i) j<=402653184:=Bh (λJ hJ=>by
    have:=mQ k _ (fS I hIm J hJ);omega) (jV i hi) j
   have hmd:((xQ W k Y I (xB W k X Y i) (j+1):Nat):Int)=((((xQ W k Y I (xB W k X Y i) j:Nat):Int).gcd (mP k (S7 W I J)):Nat):Int):=by rw[A9K A0,hJ];rfl
   apply AO;apply OR;refine jQ 10 L _ rfl hL ?_;rw[A4];refine aR ?_;refine AC.pure (.of (P2 k hk _ (fS I hIm J hJm))) ?_;(try simp-dsimp-implicitDefEqProofs(disch:=omega)only[go_sem,fp,rows])
   refine AC.pure (.of (Ex _ _ ⟨A0,A0⟩ ⟨A0,A0⟩)) ?_;(try simp-dsimp-implicitDefEqProofs(disch:=omega)only[go_sem,fp,rows])
   apply ID;refine aR ?_;refine⟨j+1,?_,(by intro d cs hd;cases hd),?_,?_⟩
   ·simp(disch:=omega) [EJ,EN,sl,rows,fp,xA,hmd]
   ·exact⟨AI,AI⟩
   exact AI
  obtain rfl:j=Y.length:=A0;have hmo:xB W k X Y (i+1)=xQ W k Y I (xB W k X Y i) Y.length:=by rw[A9L A0,hI]
  apply AO;apply DO;refine aR ?_;refine BB (i+1) ?_ ?_ ?_
  ·simp(disch:=omega) [EJ,EN,sl,rows,fp,xA,hmo]
  ·exact⟨AI,AI⟩
  exact AI
 obtain rfl:i=X.length:=A0
 apply AO;apply CW;refine PT ?_;apply DQ;simp-dsimp-implicitDefEqProofs(disch:=omega)only[go_sem];try rfl
def dK(r)(hl:r.length<=4)(h:∀x∈r,-64<=x/\x<=64):DZ prog 139 [ints r] (.b true):=by
 refine BI AY func139 rfl AP ntmps139 results139 (.b _) (λnx cX=>?_)
 refine EU ?_;refine A6 λN1 CW=>EU ?_;refine AA<|AM (α:=Nat) (λx=>sl 15 [(5,ints r),(6,.i .i64 r.length),(7,.i .i64 x)]) (λ_=>DD) (λx m=>x<=r.length) (λx=>r.length-x) (0) ?_ ?_ (λ_ _ h=>h) ?_
 ·simp
 ·exact FV
 rintro k m hk
 refine BH ?_;refine EU ?_;refine A6 λN2 DN=>AK ?_ ?_<;>intro h1
 ·have hx:=h _ (QR (d:=0) (show k<r.length by omega));have dC:=KV (r.getD k 0) (-64) 64;rw[KU hx]at dC;apply AF;apply DN;refine A6 λN3 DO=>AA<|EU ?_;refine sQ λN hN=>?_;simp-dsimp-implicitDefEqProofs(disch:=omega)only[go_sem,ints];refine AC.pure (.of (dC)) ?_;(try simp-dsimp-implicitDefEqProofs(disch:=omega)only[go_sem,ints]);apply hN;refine AK ?_ ?_<;>intro h2
  ·cases h2
  apply AF;apply DO;refine LG ?_;refine BB (k+1) ?_ ?_ ?_
  ·exact FV
  ·omega
  exact AI
 apply AO;apply CW;refine EU ?_;apply DQ;simp-dsimp-implicitDefEqProofs(disch:=omega)only[go_sem];skip
def mS(n W)(h:tbP n W)(hn:1<=n):DZ prog 66 [fp n W] (.b true):=by
 have dC:=KV n 1 4
 rw[KU ⟨A0,by have:=h.2.1;omega⟩]at dC
 have AP0:=h.1
 have z1:decide ((W.length:Int)>12)=false:=by simp;omega
 refine BI AY func66 rfl AP ntmps66 results66 (.b _) (λnx cX=>?_)
 refine PT ?_;refine BN 1 nx _ rfl (AD _ _ _) ?_
 refine BH ?_;refine A6 λN1 CW=>sQ λN hN=>?_;simp-dsimp-implicitDefEqProofs(disch:=omega)only[go_sem,fp,rows,z1];refine AC.pure (.of (dC)) ?_;(try simp-dsimp-implicitDefEqProofs(disch:=omega)only[go_sem,fp,rows]);apply hN;refine AK ?_ ?_<;>intro h1
 ·cases h1
 apply AF;apply CW;refine A6 λN2 DN=>PT ?_;refine AA<|AM (α:=Nat) (λx=>sl 33 [(1,.p 0 [.i .i64 n,rows W]),(16,rows W),(17,.i .i64 W.length),(18,.i .i64 x)]) (λ_=>DD) (λx m=>x<=W.length) (λx=>W.length-x) (0) ?_ ?_ ((by intro d cs hd;cases hd)) ?_
 ·simp
 ·exact Kt
 rintro k m hk
 refine BH ?_;refine PT ?_;refine A6 λN3 DO=>AK ?_ ?_<;>intro h2
 ·have Iv:=rwZ (W:=W) (show k<W.length by omega);obtain⟨UF,dJ⟩:=h.2.2 _ (QR (d:=[]) (show k<W.length by omega));obtain⟨r,hr⟩:=EK (W.getD k []);rw[hr]at Iv UF dJ;have hef:=dK r (by have:=h.2.1;omega) dJ;have z2:((r.length:Int) !=(n:Int))=false:=by rw[UF];simp
  apply AF;apply DO;refine A6 λN4 FD=>AA<|sQ λN hN=>?_;simp-dsimp-implicitDefEqProofs(disch:=omega)only[go_sem,fp,rows,Iv];apply hN;refine sQ λN hN=>?_;simp-dsimp-implicitDefEqProofs(disch:=omega)only[go_sem,fp,rows,z2];refine AC.pure (.of (hef)) ?_;(try simp-dsimp-implicitDefEqProofs(disch:=omega)only[go_sem,fp,rows]);apply hN;refine AK ?_ ?_<;>intro h3
  ·cases h3
  apply AF;apply FD;refine aR ?_;refine BB (k+1) ?_ ?_ ?_
  ·exact Kt
  ·omega
  exact AI
 apply AO;apply DN;refine PT ?_;apply DQ;simp-dsimp-implicitDefEqProofs(disch:=omega)only[go_sem];skip
def Iz(f:Nat->Nat):Nat->Nat
 |0=>1
 |k+1=>Iz f k*f k
def Bi{f n}(h:∀i,i<n->0<f i):∀k,k<=n->0<Iz f k
 |0,_=>Nat.one_pos
 |k+1,hk=>Nat.mul_pos (Bi h k A0) (h k A0)
def bD(f:Nat->Nat)(k:Nat):C2:=(List.range k).map λi=>(f i:Int)
def ADW{f k}:(bD f (k+1)).map (AV.i .i64)=(bD f k).map (AV.i .i64)++[.i .i64 (f k:Int)]:=by simp[bD,CX]
def bE{f k}:(bD f k).length=k:=by simp[bD]
set_option maxHeartbeats 4000000 in
def bF(n W)(h:tbP n W)(f)(hf:∀i,i<n->0<f i)(hd:∀k,1<=k->k<=n->xB W k (Q2 k W.length) (Q2 k n) (Q2 k W.length).length=Iz f k):DZ prog 67 [fp n W] (ints (bD f n)):=by
 have hn4:=h.2.1
 refine DA AY func67 rfl AP ntmps67 results67 ((IC _)) (λnx cX=>?_)
 refine PT ?_;refine BN 1 nx _ rfl (AD _ _ _) ?_
 refine BH ?_;refine PT ?_;refine PT ?_;refine A6 λN1 CW=>PT ?_;refine AA<|AM (α:=Nat×HP×AV) (λx=>sl 26 [(1,.p 0 [.i .i64 n,rows W]),(3,x.2.2),(4,.i .i64 (Iz f x.1)),(5,.i .i64 (x.1+1:Nat))]) (λx=>x.2.1) (λx m=>(x.1<=n/\nx<=m)/\LC x.2.1 nx m x.2.2 ((bD f x.1).map (.i .i64))) (λx=>n-x.1) ((0,DD,.nl)) ?_ ?_ ((by intro d cs hd;cases hd)) ?_
 ·exact⟨⟨B5,AI⟩,LC.nil⟩
 ·simp(disch:=omega) [EJ,EN,sl,rows,fp,Iz]
 rintro⟨k,G,L⟩ m ⟨⟨hk,hm⟩,hL⟩
 dsimp only at hk hm hL ⊢
 have hL1:=hL.one
 have YC:=hL.len
 rw[A4,bE]at YC
 refine BH ?_;refine A6 λN2 DN=>PT ?_;refine AK ?_ ?_<;>intro h1
 ·have eA:k+1<=n:=A0;have hmd:=ZT n W h (k+1) A0;rw[hd (k+1) A0 eA]at hmd;have dD:=Bi hf k A0;have VL:=Bi hf (k+1) eA;have hb:=Lq h (k:=k+1) A0 _ (A1 _);rw[hd (k+1) A0 eA]at hb;have hfb:f k<=Iz f (k+1):=Nat.le_mul_of_pos_left _ dD;have hq:(Iz f (k+1):Int).tdiv (Iz f k:Int)=(f k:Int):=by
   rw[tdN,Iz,Nat.mul_div_cancel_left _ dD]
  apply AF;apply DN;refine A6 λN3 DO=>AA<|Ks (hmd) ?_;refine A6 λN4 FD=>PT ?_;refine AK ?_ ?_<;>intro h2
  ·exfalso;omega
  apply AF;apply FD;refine sQ λN hN=>?_;simp-dsimp-implicitDefEqProofs(disch:=(first|omega|((repeat refine LC.CJ A0 ?_);assumption))) only[go_sem,fp,rows,hq,hL1,YC,F2 (a:=nx) (b:=m) (L:=L) (cs:=(bD f k).map (.i .i64)),A4,bE]
  apply hN;refine BX (λG5 KK=>?_);dsimp only at KK;refine aR ?_;apply DO;refine aR ?_;refine BB (k+1,G5,.h (m+4+4+2+5) 0 (k+1)) ?_ ?_ ?_
  ·exact Kt
  ·have TC:LC G5 nx (m+4+4+2+6) (.h (m+4+4+2+5) 0 (k+1)) ((bD f (k+1)).map (.i .i64)):=LC.mk (by rw[<-KK,AD,ADW]) (by rw[A4,bE]) A0 A0;first|exact⟨⟨AI,AI⟩,TC.wide (A1 _) A0⟩|exact⟨AI,TC.wide (A1 _) A0⟩
  exact AI
 obtain rfl:k=n:=A0
 apply AO;apply CW;refine PT ?_;refine BQ ?_;exact hL.tB
structure yW(xs:C2):Prop where
 len:xs.length<=10
 rng:∀k,k<xs.length->2<=xs.getD k 0/\xs.getD k 0<=1000000
 dvd:∀k,k+1<xs.length->(xs.getD (k+1) 0).tmod (xs.getD k 0)=0
def bG(xs:C2):AV:= .g [ints xs,.i .i64 0]
def ADX(xs):NR (bG xs):= .g _ λk x hx=>by
 match k,hx with
 |0,hx=>cases hx;exact IC _
 |1,hx=>cases hx;exact .i _ _
def uO{cX n ops y s s1 K}(q:AW cX prog y s1 K)(e:HA ops s s1:=by intro N hN;(try simp-dsimp-implicitDefEqProofs(disch:=omega)only[go_sem,bG,CB,ints]);exact hN):GZ cX n ops y s K:=HF q e
def V7(xs)(h:yW xs):DZ prog 69 [bG xs] (.b true):=by
 have hl:=h.len
 have z1:decide ((0:Int)<0)=false:=rfl
 have z2:decide ((0:Int)>10)=false:=rfl
 have z3:decide ((xs.length:Int)+0>10)=false:=by simp;omega
 refine BI AY func69 rfl AP ntmps69 results69 (.b _) (λnx cX=>?_)
 refine uO ?_;refine BN 1 nx _ rfl (AD _ _ _) ?_
 refine BH ?_;refine A6 λN1 CW=>sQ λN hN=>?_;simp-dsimp-implicitDefEqProofs(disch:=omega)only[go_sem,bG,CB,ints,z1,z2,z3];apply hN;refine DJ rfl ?_;apply AF;apply CW;refine A6 λN2 DN=>uO ?_;refine AA<|AM (α:=Nat) (λx=>sl 49 [(1,.p 0 [ints xs,.i .i64 0]),(23,ints xs),(24,.i .i64 xs.length),(25,.i .i64 x)]) (λ_=>DD) (λx m=>x<=xs.length) (λx=>xs.length-x) (0) ?_ ?_ (by intro d cs hd;cases hd) ?_
 ·simp
 ·simp(disch:=omega) [EJ,EN,sl,DV,ints,rows,B6,bG,ints,DV,CB]<;>omega
 rintro k m hk
 refine BH ?_;refine uO ?_;refine A6 λN3 DO=>AK ?_ ?_<;>intro h1
 ·have hr:=h.rng k A0;have dC:=KV (xs.getD k 0) 2 1000000;rw[KU hr]at dC;apply AF;apply DO;refine A6 λN4 FD=>AA<|uO ?_;refine sQ λN hN=>?_;(try simp-dsimp-implicitDefEqProofs(disch:=omega)only[go_sem,bG,CB,ints]);refine AC.pure (.of (dC)) ?_;(try simp-dsimp-implicitDefEqProofs(disch:=omega)only[go_sem,bG,CB,ints])
  refine J5.mk' (λh2=>?_) (λh2=>?_)
  ·try simp only[cn]at h2
   have Oh:0<k:=A0;have e7:((k:Int)-1).toNat=k-1:=A0;have dJ:=h.rng (k-1) A0;have hd:=h.dvd (k-1) A0;rw[show k-1+1=k by omega]at hd;(try simp-dsimp-implicitDefEqProofs(disch:=omega)only[go_sem,CB,ints,e7,hd])
   (try simp-dsimp-implicitDefEqProofs(disch:=omega)only[go_sem,bG,CB,ints])
   apply hN;refine AK ?_ ?_<;>intro h3
   ·exact absurd trivial h3
   apply AF;apply FD;apply rQ;simp-dsimp-implicitDefEqProofs(disch:=omega)only[go_sem,bG,CB,ints];refine BB (k+1) ?_ ?_ ?_
   ·simp(disch:=omega) [EJ,EN,sl,DV,ints,rows,B6,bG,ints,DV,CB]<;>omega
   ·omega
   exact AI
  try simp only[cn]at h2
  (try simp-dsimp-implicitDefEqProofs(disch:=omega)only[go_sem,bG,CB,ints])
  apply hN;refine DJ rfl ?_;apply AF;apply FD;apply rQ;simp-dsimp-implicitDefEqProofs(disch:=omega)only[go_sem,bG,CB,ints];refine BB (k+1) ?_ ?_ ?_
  ·simp(disch:=omega) [EJ,EN,sl,DV,ints,rows,B6,bG,ints,DV,CB]<;>omega
  ·omega
  exact AI
 apply AO;apply DN;refine uO ?_;apply DQ;simp-dsimp-implicitDefEqProofs(disch:=omega)only[go_sem];skip
def ADY(xs):NR (.t [bG xs,.i .i64 0]):= .t _ λk x hx=>by
 match k,hx with
 |0,hx=>cases hx;exact ADX _
 |1,hx=>cases hx;exact .i _ _
def lsA(o:Option Nat)(n:Nat):AV:=match o with
 |none=> .nl
 |some id=> .h id 0 n
def Vv(o n):one (lsA o n)=true:=by cases o<;>rfl
def Vx(o n):I0 (lsA o n)=[lsA o n]:=by cases o<;>rfl
def Vy(o n):wS (lsA o n)=true:=by cases o<;>rfl
def bH(xs)(h:yW xs)(o nx H)(h0:o=none->xs=[])(h1:∀id,o=some id->H id=some (xs.map (.i .i64))):AC prog 68 nx H [.g [lsA o xs.length,.i .i64 0]] (λ_ H' r=>H'=H/\r= .t [.g [lsA o xs.length,.i .i64 0],.i .i64 0]):=by
 have hv:∀H':HP,(∀i c,H i=some c->H' i=some c)->Vw H' (.g [lsA o xs.length,.i .i64 0]) (bG xs):=λH' hle=> .g _ _ rfl λk x y hx hy=>by
  match k,hx,hy with
  |0,hx,hy=>
   cases hx;cases hy;cases o with
   |none=>rw[h0 rfl];exact .nl
   |some id=>exact Vw.IY (hle _ _ (h1 id rfl)) (by rw[A4])
  |1,hx,hy=>cases hx;cases hy;exact .refl _
 refine CF AY func68 rfl AP ntmps68 results68 (λGM cX=>?_)
 have HX:∀i c,H i=some c->i<nx:=λi c h=>by apply AN;intro hn;rw[GM i A0]at h;cases h
 refine sQ λN hN=>?_;simp-dsimp-implicitDefEqProofs(disch:=omega)only[go_sem,Vx,Vy,Vv];apply hN;refine A6 λN1 CW=>sQ λN hN=>?_;(try simp-dsimp-implicitDefEqProofs(disch:=omega)only[go_sem,Vx,Vy,Vv]);refine AC.pure (.Va (V7 xs h) (.cons (hv _ (λi c hi=>by have:=HX i c hi;rw[AB _ _ A0,AB _ _ A0];exact hi)) .nil) (.b _)) ?_
 (try simp-dsimp-implicitDefEqProofs(disch:=omega)only[go_sem,Vx,Vy,Vv])
 apply hN;refine AK ?_ ?_<;>intro h1
 ·cases h1
 apply AF;apply CW;refine sQ λN hN=>?_;simp-dsimp-implicitDefEqProofs(disch:=omega)only[go_sem,Vx,Vy,Vv];apply hN;refine BQ ?_;exact⟨H,λi c hi=>by have:=HX i c hi;rw[AB _ _ A0,AB _ _ A0];exact hi,rfl⟩
def VN(f:Nat->Nat)(k:Nat):C2:=(bD f k).filter λx=>decide (1<x)
def A1T{f k}(h:1<f k):VN f (k+1)=VN f k++[(f k:Int)]:=by
 unfold VN bD;rw[CX,AZ,K9];simp[show(1:Int)<f k by omega]
def ADZ{f k}(h:¬1<f k):VN f (k+1)=VN f k:=by
 unfold VN bD;rw[CX,AZ,K9];simp[show ¬(1:Int)<f k by omega]
def A1U{f k}:(VN f k).length<=k:=by
 have:=F6 (λx=>decide ((1:Int)<x)) (bD f k);rw[bE]at this;exact this
set_option maxHeartbeats 4000000 in
def jW(n W)(h:tbP n W)(h1n:1<=n)(f)(hf:∀i,i<n->0<f i)(hd:∀k,1<=k->k<=n->xB W k (Q2 k W.length) (Q2 k n) (Q2 k W.length).length=Iz f k)(hA:yW (VN f n)):DZ prog 23 [fp n W] (.t [bG (VN f n),.i .i64 0]):=by
 have hn4:=h.2.1
 have ZR:=bE (f:=f) (k:=n)
 refine DA AY func23 rfl AP ntmps23 results23 ((ADY _)) (λnx cX=>?_)
 refine Ae ?_;refine A6 λN1 CW=>BN 1 nx _ rfl ((AB _ _ A0).trans (AD _ _ _)) ?_
 refine sQ λN hN=>?_;simp-dsimp-implicitDefEqProofs(disch:=omega)only[go_sem,fp,ints,rows];refine AC.pure (.of (mS n W h h1n)) ?_;(try simp-dsimp-implicitDefEqProofs(disch:=omega)only[go_sem,fp,ints,rows]);apply hN;refine DJ rfl ?_;apply AF;apply CW;refine sQ λN hN=>?_;simp-dsimp-implicitDefEqProofs(disch:=omega)only[go_sem,fp,ints,rows];refine AC.pure (.of (bF n W h f hf hd)) ?_;(try simp-dsimp-implicitDefEqProofs(disch:=omega)only[go_sem,fp,ints,rows]);apply hN;refine sQ λN hN=>?_;simp-dsimp-implicitDefEqProofs(disch:=omega)only[go_sem,Int.sub_self,A4,fp,ints,rows,ZR];apply hN;refine A6 λN2 DN=>Ae ?_;refine AA<|BX (λG0 JM=>?_);dsimp only at JM
 have jC:G0 (nx+3+3+3+6)=some [.nl,.i .i64 0]:=by rw[<-JM];exact AD _ _ _
 have ZN:G0 (nx+1)=some [.nl,.i .i64 0]:=by rw[<-JM,AB _ _ A0,AB _ _ A0,AD]
 clear JM
 refine AM (α:=Nat×HP×AV) (λx=>sl 39 [(2,.q (nx+1) 0),(5,.q (nx+3+3+3+6) 0),(20,ints (bD f n)),(21,.i .i64 n),(22,.i .i64 x.1)]) (λx=>x.2.1) (λx m=>(x.1<=n/\nx+16<=m)/\(x.2.1 (nx+3+3+3+6)=some [x.2.2,.i .i64 0]/\x.2.1 (nx+1)=some [.nl,.i .i64 0])/\LC x.2.1 (nx+16) m x.2.2 ((VN f x.1).map (.i .i64))) (λx=>n-x.1) ((0,G0,.nl)) ?_ ?_ (λ_ _ h=>h) ?_
 ·exact⟨⟨B5,AI⟩,⟨jC,ZN⟩,LC.nil⟩
 ·exact Ku ZR
 rintro⟨k,G,L⟩ m ⟨⟨hk,hm⟩,⟨hG,K6⟩,hL⟩
 dsimp only at hk hm hG K6 hL ⊢
 clear jC ZN
 have hL1:=hL.one
 have YC:=hL.len
 have Xz:=hL.bd
 have X5:=A1U (f:=f) (k:=k)
 rw[A4]at YC
 refine BH ?_;refine Ae ?_;refine A6 λN3 DO=>AK ?_ ?_<;>intro h1
 ·have Iv:(List.map (AV.i .i64) (bD f n)).getD k .j= .i .i64 (f k:Nat):=by simp[bD,show k<n by omega]
  apply AF;apply DO;refine A6 λN4 FD=>AA<|sQ λN hN=>?_;simp-dsimp-implicitDefEqProofs(disch:=omega)only[go_sem,A4,fp,ints,rows,Iv,ZR];apply hN;refine Ae ?_;refine AK ?_ ?_<;>intro h2
  ·have Vf:1<f k:=A0;have Lj:dl (CJ G (m+1+3+2+3) (some [AV.i .i64 ((f k:Nat):Int)])) L (nx+3+3+3+6)=some [L,.i .i64 0]:=by rw[DW A0,AB _ _ A0,hG]
   apply rQ;simp-dsimp-implicitDefEqProofs(disch:=(first|omega|((repeat refine LC.CJ A0 ?_);assumption))) only[go_sem,fp,rows,ints,hG,Lj,hL1,YC,F2 (a:=nx+16) (b:=m) (L:=L) (cs:=(VN f k).map (.i .i64)),A4];apply FD;refine BX (λG5 KK=>?_);dsimp only at KK;apply rQ;simp-dsimp-implicitDefEqProofs(disch:=omega)only[go_sem,fp,ints,rows];refine BB (k+1,G5,.h (m+1+3+2+4) 0 ((VN f k).length+1)) ?_ ?_ ?_
   ·exact Ku ZR
   ·have g1:G5 (nx+3+3+3+6)=some [.h (m+1+3+2+4) 0 ((VN f k).length+1),.i .i64 0]:=by rw[<-KK,AD]
    have g2:G5 (nx+1)=some [.nl,.i .i64 0]:=by rw[<-KK,AB _ _ A0,AB _ _ A0,DW A0,AB _ _ A0,K6]
    have g3:LC G5 (nx+16) (m+1+3+2+5) (.h (m+1+3+2+4) 0 ((VN f k).length+1)) ((VN f (k+1)).map (.i .i64)):=LC.mk (by rw[<-KK,AB _ _ A0,AD,A1T Vf,AZ];rfl) (by rw[A1T Vf];simp) A0 A0;exact⟨⟨AI,AI⟩,⟨g1,g2⟩,g3.wide (A1 _) A0⟩
   exact AI
  have Vf:¬1<f k:=A0;apply AF;apply FD;refine BX (λG5 KK=>?_);dsimp only at KK;apply rQ;simp-dsimp-implicitDefEqProofs(disch:=omega)only[go_sem,fp,ints,rows];refine BB (k+1,G5,L) ?_ ?_ ?_
  ·exact Ku ZR
  ·subst KK;rw[ADZ Vf];exact⟨⟨AI,AI⟩,⟨hG,K6⟩,hL.wide (A1 _) AI⟩
  exact AI
 obtain rfl:k=n:=A0
 obtain⟨o,ho1,Xv,ho3⟩:∃o:Option Nat,L=lsA o (VN f k).length/\(o=none->VN f k=[])/\∀id,o=some id->G id=some ((VN f k).map (.i .i64))/\nx+16<=id:=by
  rcases hL with ⟨rfl,e⟩|⟨id,rfl,e,q1,q2⟩
  ·have e':VN f k=[]:=GY.1 e;exact⟨none,rfl,λ_=>e',λ_ h=>(by cases h)⟩
  exact⟨some id,(by rw[A4];rfl),λh=>(by cases h),λ_ h=>(by cases h;exact⟨e,q1⟩)⟩
 subst ho1
 apply AO;apply DN;refine sQ λN hN=>?_;(try simp-dsimp-implicitDefEqProofs(disch:=omega)only[go_sem,Vx,fp,ints,Vy,Vv,rows,hG]);refine(bH (VN f k) hA o _ _ Xv (λid e=>(ho3 id e).1)).mono ?_
 rintro _ H9 r9 ⟨rfl,rfl⟩
 (try simp-dsimp-implicitDefEqProofs(disch:=omega)only[go_sem,Vx,Vy,Vv,K6])
 apply hN;refine BQ ?_;refine .t _ _ rfl λq x y hx hy=>?_
 match q,hx,hy with
 | 0,hx,hy=>
  cases hx;cases hy;refine .g _ _ rfl λq x y hx hy=>?_
  match q,hx,hy with
  | 0,hx,hy=>
   cases hx;cases hy;cases o with
   |none=>rw[Xv rfl];exact .nl
   |some id=>
    have:=(ho3 id rfl).2;exact Vw.IY ((AB _ _ A0).trans (ho3 id rfl).1) (by rw[A4])
  |1,hx,hy=>cases hx;cases hy;exact .refl _
 |1,hx,hy=>cases hx;cases hy;exact .refl _
end Go.Proofs.YtgknbnkmilddhaaGreat