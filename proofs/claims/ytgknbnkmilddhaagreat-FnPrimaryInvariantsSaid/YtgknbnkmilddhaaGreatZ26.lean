import Derived.Test.YtgknbnkmilddhaaGreatZ25
set_option linter.all false

open Go.Proofs.Tryz
namespace Go.Proofs.YtgknbnkmilddhaaGreat
def zqA{P Q:Prop}(q:Q)(e:Q->P:=by intro q;(try simp-dsimp-implicitDefEqProofs(maxSteps:=800000) (disch:=omega)only[go_sem,B6,IK,CB,EY,ints,VG,CI,rows]);exact q):P:=e q
def zqB{P Q:Prop}(q:Q)(e:Q->P:=by intro q;(try simp-dsimp-implicitDefEqProofs(disch:=omega)only[go_sem,B6,AU]);exact q):P:=e q
section
def rwQ{W:D4}{k:Nat}(h:k<W.length):(W.map ints).getD k .j= .v (W.getD k []).length ((W.getD k []).map (.i .i64)):=by simp[h,ints]
def fI(X:AV):AV:= .t [X,.i .i64 (0:Nat)]
def AMQ(b e):NR (.t [.b b,.i .i64 e]):=NR.ts (λx hx=>by
 simp at hx;rcases hx with rfl|rfl
 ·exact .b _
 exact .i _ _)
section
variable(U:C2)(pw:D4)(cj:E6)
def iH(h:BW U pw cj)(l8:∀i,i<U.length->∀k,k<(cj.getD i []).length->fl ((cj.getD i []).getD k [])=un (i+1+k)):DZ prog 63 [AU U pw cj] (.b true):=by
 have Q4:=h.1.1
 have KW:=h.1.2.2
 refine BI AY func63 rfl AP ntmps63 results63 (.b _) (λnx cX=>?_)
 refine lU ?_;refine A6 λN1 CW=>lU ?_;refine AA<|AM (α:=Nat) (λx=>sl 39 [(0,AU U pw cj),(10,.i .i64 U.length),(11,.i .i64 x)]) (λ_=>DD) (λx m=>x<=U.length) (λx=>U.length-x) (0) ?_ ?_ (λ_ _ h=>h) ?_
 ·simp
 ·exact I2
 rintro i m hi
 simp only[AU,B6];refine BH ?_;refine lU ?_;refine A6 λN2 DN=>AK ?_ ?_<;>intro h1
 ·have hio:i<U.length:=A0;have hck:=(h.2.2.2 i hio).2.1;have hgc:(cj.map rows).getD i .j= .v (cj.getD i []).length ((cj.getD i []).map ints):=by simp[rows,show i<cj.length by omega]
  apply AF;apply DN;refine A6 λN3 DO=>AA<|lU ?_;refine sQ λN hN=>?_;simp-dsimp-implicitDefEqProofs(disch:=omega)only[go_sem,A4,B6,AU,hgc];apply hN;refine AA<|AM (α:=Nat) (λx=>sl 39 [(0,AU U pw cj),(3,.i .i64 i),(10,.i .i64 U.length),(11,.i .i64 i),(20,rows (cj.getD i [])),(21,.i .i64 (cj.getD i []).length),(22,.i .i64 x)]) (λ_=>DD) (λx m=>x<=(cj.getD i []).length) (λx=>(cj.getD i []).length-x) (0) ?_ ?_ (λ_ _ h=>h) ?_
  ·simp
  ·exact I2
  rintro k m2 hk;simp only[AU,B6,rows];refine BH ?_;refine lU ?_;refine A6 λN4 FD=>AK ?_ ?_<;>intro h2
  ·have Iv:=rwQ (W:=cj.getD i []) (k:=k) A0;have e1:AV.v ((cj.getD i []).getD k []).length (((cj.getD i []).getD k []).map (AV.i IntKind.i64))=vi U.length (un (i+1+k)):=by
    rw[<-l8 i hio k A0];exact JX ((h.2.2.2 i hio).2.2 k A0).1
   have e2:((i:Int)+1+k)=((i+1+k:Nat):Int):=A0;apply AF;apply FD;refine A6 λN5 ID=>AA<|sQ λN hN=>?_;simp-dsimp-implicitDefEqProofs(disch:=omega)only[go_sem,B6,AU,Iv,e1];apply hN;refine sQ λN hN=>?_;(try simp-dsimp-implicitDefEqProofs(disch:=omega)only[go_sem,B6,AU,vi,e2]);refine AC.pure (.of ((FG U.length (i+1+k) A0 A0))) ?_;refine zqB ?_
   refine AC.pure (.of ((P0 (U:=U) (pw:=pw) (cj:=cj) (i:=0) A0 (O9 h.val (AE _) (show i+1+k<U.length by omega)) (O9 h.val (AE _) (show i+1+k<U.length by omega))))) ?_;refine zqB ?_
   apply hN;refine AK ?_ ?_<;>intro h3
   ·exfalso;simp at h3
   apply AF;apply ID;apply rQ;refine zqB ?_;refine BB (k+1) ?_ ?_ ?_
   ·exact E2
   ·omega
   exact AI
  apply AO;apply DO;apply rQ;refine zqB ?_;refine BB (i+1) ?_ ?_ ?_
  ·exact E2
  ·omega
  exact AI
 apply AO;apply CW;refine lU ?_;apply DQ;simp-dsimp-implicitDefEqProofs(disch:=omega)only[go_sem];skip
def kY(h:BW U pw cj)(hc:HN (pc U pw cj) 0){S}(hS:NO (T (pc U pw cj) 0) (M (pc U pw cj) 0) S)(us)(MC:RA (pc U pw cj) S us)(a)(ha:S a):DZ prog 188 [AU U pw cj,D7 U.length us,vi U.length a] (.b true):=by
 have Q4:=h.1.1
 have aM:=MC.len
 rw[show(pc U pw cj).n=U.length from rfl]at aM
 have hT:=hS.n ha
 have hz:=(Ra h.val hc hS MC hT).2 ha
 have AMR:=eT (U:=U) (pw:=pw) (cj:=cj) A0 (T.zero h.val 0)
 rw[KU rfl]at AMR
 refine BI AY func188 rfl AP ntmps188 results188 (.b _) (λnx cX=>?_)
 refine MA ?_;refine sQ λN hN=>?_;refine eX ?_;refine W5 ((hz▸KG U pw cj h hc us A0 (λk hk=>MC.at (P3 hk)) a hT).pure) ?_
 refine W5 (AMR) ?_
 apply hN;apply DQ;simp-dsimp-implicitDefEqProofs(disch:=omega)only[go_sem];skip
def kZ(h:BW U pw cj)(hc:HN (pc U pw cj) 0){S}(hS:NO (T (pc U pw cj) 0) (M (pc U pw cj) 0) S)(us)(MC:RA (pc U pw cj) S us)(hnm:∀k,k<U.length->∀x,S x->S (PI (pc U pw cj) x (un k))):DZ prog 128 [AU U pw cj,D7 U.length us] (.b true):=by
 have Q4:=h.1.1
 have aM:=MC.len
 have PN:(pc U pw cj).n=U.length:=rfl
 rw[PN]at aM
 have zO:=U7 (n:=U.length)
 refine DA AY func128 rfl AP ntmps128 results128 ((.b _)) (λnx cX=>?_)
 refine MA ?_;refine A6 λN1 CW=>Pt (WG U pw cj A0) ?_;refine AA<|AM (α:=Nat) (λx=>sl 32 [(0,AU U pw cj),(1,D7 U.length us),(10,D7 U.length (IT U.length)),(11,.i .i64 U.length),(12,.i .i64 x)]) (λ_=>DD) (λx m=>x<=U.length) (λx=>U.length-x) (0) ?_ ?_ (λ_ _ h=>h) ?_
 ·simp
 ·simp(disch:=omega) [EJ,EN,sl,AU,ints,rows,B6,D7,zO]
 rintro i m hi
 simp only[AU,D7];refine BH ?_;refine MA ?_;refine A6 λN2 DN=>AK ?_ ?_<;>intro h1
 ·have hio:i<U.length:=A0;have hui:=rC hio;have hgT:=O9 h.val (AE i) (show i<(pc U pw cj).n from hio);apply AF;apply DN;refine A6 λN3 DO=>AA<|sQ λN hN=>?_;simp-dsimp-implicitDefEqProofs(disch:=omega)only[go_sem,AU,vi,D7,hui];apply hN;refine MA ?_;refine AA<|AM (α:=Nat) (λx=>sl 32 [(0,AU U pw cj),(1,D7 U.length us),(6,vi U.length (un i)),(10,D7 U.length (IT U.length)),(11,.i .i64 U.length),(12,.i .i64 i),(16,D7 U.length us),(17,.i .i64 us.length),(18,.i .i64 x)]) (λ_=>DD) (λx m=>x<=us.length) (λx=>us.length-x) (0) ?_ ?_ (λ_ _ h=>h) ?_
  ·simp
  ·exact GD
  rintro k m2 hk;simp only[AU,D7,vi];refine BH ?_;refine MA ?_;refine A6 λN4 FD=>AK ?_ ?_<;>intro h2
  ·have hSk:S (us.getD k z0):=MC.S (P3 A0);have hTk:=hS.n hSk;apply AF;apply FD;refine A6 λN5 ID=>AA<|MA ?_;refine sQ λN hN=>?_;refine eX ?_;refine W5 ((FU U pw cj h 0 hc _ _ hTk hgT).pure) ?_
   refine W5 (kY U pw cj h hc hS us MC _ (hnm i hio _ hSk)) ?_
   apply hN;refine AK ?_ ?_<;>intro h3
   ·exfalso;simp at h3
   apply AF;apply ID;refine QX ?_;refine BB (k+1) ?_ ?_ ?_
   ·exact GD
   ·omega
   exact AI
  apply AO;apply DO;refine QX ?_;refine BB (i+1) ?_ ?_ ?_
  ·exact GD
  ·omega
  exact AI
 apply AO;apply CW;refine MA ?_;refine BQ ?_;exact .refl _
def dW(hl:PR U pw cj)(hg:ADF U pw cj){S}(hS:NO (T (pc U pw cj) 0) (M (pc U pw cj) 0) S)(us)(MC:RA (pc U pw cj) S us)(KW:TK (pc U pw cj) us=us)(hnm:∀k,k<U.length->∀x,S x->S (PI (pc U pw cj) x (un k))):DZ prog 61 [AU U pw cj,D7 U.length us] (.i .i64 (0:Nat)):=by
 have aM:=MC.len
 have PN:(pc U pw cj).n=U.length:=rfl
 rw[PN]at aM
 have has:=dV U pw cj hl hg us (λx hx=>hS.n (MC.S hx)) aM KW
 refine BI AY func61 rfl AP ntmps61 results61 (.i _ _) (λnx cX=>?_)
 refine sQ λN hN=>?_;simp-dsimp-implicitDefEqProofs(disch:=omega)only[go_sem,AU,D7];apply hN;refine A6 λN1 CW=>sQ λN hN=>?_;(try simp-dsimp-implicitDefEqProofs(disch:=omega)only[go_sem,AU,D7]);refine AC.pure (.Va (has) (.cons (.refl _) (.cons (.h _ 0 1 [D7 U.length us] [D7 U.length us] (AD _ _ _) (A1 _) rfl (λk x y hx hy=>by rw[BS,hy]at hx;cases hx;exact .refl _)) .nil)) (.b _)) ?_
 (try simp-dsimp-implicitDefEqProofs(disch:=omega)only[go_sem,AU])
 apply hN;refine AK ?_ ?_<;>intro h1
 ·refine tG ?_;refine BQ ?_;cases h1
 apply AF;apply CW;refine A6 λN2 DN=>Km (kZ U pw cj hg.1 hg.2 hS us MC hnm) ?_;refine AK ?_ ?_<;>intro h2
 ·refine tG ?_;refine BQ ?_;cases h2
 apply AF;apply DN;refine tG ?_;refine BQ ?_;rfl
def XZ(hl:PR U pw cj)(h:BW U pw cj)(hc:HN (pc U pw cj) 0)(l8:∀i,i<U.length->∀k,k<(cj.getD i []).length->fl ((cj.getD i []).getD k [])=un (i+1+k)):DZ prog 20 [CI U pw cj] (.t [.b true,.i .i64 (0:Nat)]):=by
 have XU:=JI U pw cj hl
 rw[KU ⟨h,hc⟩]at XU
 refine BI AY func20 rfl AP ntmps20 results20 (AMQ _ _) (λnx cX=>?_)
 refine GC ?_;refine BN 1 nx _ rfl (AD _ _ _) ?_
 refine BH ?_;refine A6 λN1 CW=>ZK (XU) ?_;refine AK ?_ ?_<;>intro h1
 ·refine GC ?_;refine BQ ?_;cases h1
 apply AF;apply CW;refine ZK (iH U pw cj h l8) ?_;refine BQ ?_;rfl
def TB(hl:PR U pw cj)(hg:ADF U pw cj){S}(hS:NO (T (pc U pw cj) 0) (M (pc U pw cj) 0) S)(us)(MC:RA (pc U pw cj) S us)(KW:TK (pc U pw cj) us=us)(hnm:∀k,k<U.length->∀x,S x->S (PI (pc U pw cj) x (un k))):cC prog 19 [CI U pw cj,D7 U.length us] (fI (CI (TF U us) (WA (pc U pw cj) us) (U8 (pc U pw cj) us))):=by
 intro nx
 refine ED AY func19 rfl AP ntmps19 results19 (λcX=>?_)
 refine GC ?_;refine A6 λN1 CW=>BN 2 nx _ rfl ((AB _ _ A0).trans (AD _ _ _)) ?_
 refine BH ?_;refine ZK (dW U pw cj hl hg hS us MC KW hnm) ?_;refine GC ?_;refine AK ?_ ?_<;>intro h1
 ·refine GC ?_;refine BQ ?_;exact absurd rfl h1
 apply AF;apply CW;refine sQ λN hN=>?_;refine FF ?_;refine AC.own (NY U pw cj hg.1 hg.2 us MC) (.cons (.refl _) (.cons (.refl _) .nil)) ?_
 intro m1 H1 r1 JR SF SM EO
 obtain⟨s1,s2,s3,is,js,ks,rfl,GF,o1,o2,o3⟩:=EO.1.A7W
 have u1:=zS o1
 have u2:=zS o2
 have u3:=zS o3
 have o8:H1 (nx+1)=some [.nl,.nl,.nl]:=(SM _ A0).trans J4
 (try simp-dsimp-implicitDefEqProofs(disch:=omega)only[go_sem,ints,CI,AU,u1,u2,u3,o8])
 apply hN;refine BQ ?_;have ASD:∀i∈JR,nx+3<=i:=λi hi=>by have:=EO.2.2 i hi;omega
 exact(EO.BV (λi q1 q2=>AB _ _ A0) A0 A0).pair
end
def l4{P Q:Prop}(q:Q)(e:Q->P:=by intro q;(try simp-dsimp-implicitDefEqProofs(disch:=omega)only[go_sem,F0,C4,bG,beq_self_eq_true,bne_self_eq_false,fp,CI,iF,fI,zc,Ih]);exact q):P:=e q
def Y5{cX n ops y s s1 K f Zz r}(x:DZ prog f Zz r)(q:AW cX prog y s1 K)(e:DZ prog f Zz r->HA ops s s1:=by intro x N hN;refine l4 ?_;refine AC.pure (.of x) ?_;refine l4 ?_;exact hN):GZ cX n ops y s K:=HF q (e x)
def VI{cX n ops y s s1 K}(q:AW cX prog y s1 K)(e:HA ops s s1:=by intro N hN;refine l4 ?_;exact hN):GZ cX n ops y s K:=HF q e
def Um{P f nx H Zz r}{K:Nat->HP->AV->Prop}{Q:Prop}(x:DZ P f Zz r)(q:Q)(e:Q->K nx H r:=by intro q;refine l4 ?_;exact q):AC P f nx H Zz K:=AC.pure (.of x) (e q)
def A4M{cX n ops y s s1 K}(q:AW cX prog y s1 K)(e:HA ops s s1:=by intro N hN;(try simp-dsimp-implicitDefEqProofs(disch:=omega)only[go_sem,F0,C4,A4,bG,beq_self_eq_true,bne_self_eq_false,fp,CI,iF,fI,vcs,zc,Ih]);exact hN):GZ cX n ops y s K:=HF q e
def De{P Q:Prop}(q:Q)(e:Q->P:=by intro q;(try simp-dsimp-implicitDefEqProofs(disch:=omega)only[go_sem,fp,iF,zc]);exact q):P:=e q
end
section
noncomputable def zE(P:Pc):Nat->List V->List (List V)
 |0,us=>[us]
 |f+1,us=>if (QK P us us).length=us.length then [us]else us::zE P f (QK P us us)
def AAB{P f us}(h:(QK P us us).length=us.length):zE P f us=[us]:=by
 cases f with
 |zero=>rfl
 |succ f=>rw[zE,if_pos h]
def Un{P f us}(hf:us.length<=f)(h:(QK P us us).length<us.length):∃f',f=f'+1/\zE P f us=us::zE P f' (QK P us us):=by
 cases f with
 |zero=>omega
 |succ f=>exact⟨f,rfl,by rw[zE,if_neg A0]⟩
def Uo(P:Pc)(us:List V):Prop:=(∀x∈us,T P 0 x)/\RA P (GL P us) us
section
variable{P:Pc}(hv:LK P)(hc:HN P 0)(hp:∀d,d<P.n->O8 (P.o d))
include hv hc hp
omit hp in
theorem Uo.first:Uo P (IT P.n):=⟨XS hv,(ExP.first hv hc).2.1⟩
theorem Uo.next{us}(h:Uo P us):Uo P (QK P us us)/\(QK P us us).length<=us.length/\((QK P us us).length=us.length->QK P us us=us):=by
 obtain⟨h1,h2⟩:=h;have g:=CS hv hc;have s1:=WM hv hc hp h1;have cn1:=Bl hv hc hp h1 h1;have s3:=NG.wZ hv hc (yX hv hc h1 h1) (uR h1 h1);have e3:=RA.gen hv hc s3 cn1;have hle:∀x,NG P (Ga P us us) (us++us) x->GL P us x:=λx hx=>by
  have hcj:∀a b,GL P us a->b∈us++us->GL P us (PI P a b):=λa b ha hb=>by
   have hbu:b∈us:=by rcases AG.1 hb with q|q<;>exact q
   obtain⟨f1,f2⟩:=MB hv hc (s1.n ha) (h1 b hbu);exact s1.l g (GL.of hbu) f1 (by rw[f2];exact s1.mu ha (GL.of hbu))
  refine hx _ s1 (λz hz=>?_) hcj;obtain⟨x,hx,y,hy,rfl⟩:=jZ.1 hz;have Py:=h1 x hx;have gP:=h1 y hy;obtain⟨d1,d2⟩:=mU hv hc Py gP;obtain⟨f1,f2⟩:=MB hv hc Py gP;have h5:M P 0 x (mL P x y)=PI P x y:=g.lc gP (g.cl Py d1) f1 (by rw[<-g.ac gP Py d1,d2,f2]);exact s1.l g (GL.of hx) d1 (by rw[h5];exact hcj x y (GL.of hx) (AG.2 (.inl hy)))
 obtain⟨c1,c2⟩:=RA.cmp hv hc s3 s1 cn1 h2 hle;refine⟨⟨A9N hv hc hp h1 h1,by rw[<-e3];exact cn1⟩,c1,λe=>?_⟩;have e2:=c2 e;rw[e2]at cn1;exact RA.uniq hv hc s1 cn1 h2
theorem A8Y{f us}(h:Uo P us)(hf:us.length<=f):0<(zE P f us).length/\(zE P f us).getD (if 1<(zE P f us).length then 1 else (zE P f us).length-1) []=QK P us us:=by
 obtain⟨n1,n2,n3⟩:=Uo.next hv hc hp h;rcases BL (QK P us us).length us.length with q|q
 ·obtain⟨f',rfl,he⟩:=Un hf q;have hh:∃r,zE P f' (QK P us us)=QK P us us::r:=by
   cases f' with
   |zero=>exact⟨[],rfl⟩
   | succ f'=>
     rw[zE];split
     ·exact⟨[],rfl⟩
     exact⟨_,rfl⟩
  obtain⟨r,hr⟩:=hh;rw[he,hr];simp
 rw[AAB A0];simpa using(n3 A0).symm
end
def AGL(n K e):NR (.t [vcs n K,.i .i64 e]):=NR.ts (λx hx=>by
 simp at hx;rcases hx with rfl|rfl
 ·exact A35 _ _
 exact .i _ _)
section
variable(U:C2)(pw:D4)(cj:E6)
def y7(h:BW U pw cj)(hc:HN (pc U pw cj) 0)(F cs)(hF:∀u,Uo (pc U pw cj) u->DZ prog F ([D7 U.length u]++cs) (D7 U.length (QK (pc U pw cj) u u)))(u0)(hE0:Uo (pc U pw cj) u0)(zO:u0.length<=U.length):DZ prog 57 [D7 U.length u0,.f F cs] (vcs U.length (zE (pc U pw cj) U.length u0)):=by
 have Q4:=h.1.1
 have hv:=h.val
 have SJ:=h.2.1
 have hp:∀d,d<(pc U pw cj).n->O8 ((pc U pw cj).o d):=λd hd=>SJ d hd
 have PN:(pc U pw cj).n=U.length:=rfl
 obtain⟨R,hR⟩:=EK (zE (pc U pw cj) U.length u0)
 rw[hR]
 refine DA AY func57 rfl AP ntmps57 results57 ((A35 _ _)) (λnx cX=>?_)
 refine T7 ?_;refine T7 ?_;refine AA<|AM (α:=Nat×List (List V)×List V×Nat) (λx=>sl 30 [(1,.f F cs),(5,.h x.1 0 (x.2.1.length+1))]) (λx=>CJ DD x.1 (some (x.2.1.map (D7 U.length)++[D7 U.length x.2.2.1]))) (λx m=>(nx<=x.1/\x.1<m/\x.2.1.length+x.2.2.2<=U.length/\x.2.2.1.length<=x.2.2.2)/\Uo (pc U pw cj) x.2.2.1/\x.2.1++zE (pc U pw cj) x.2.2.2 x.2.2.1=R) (λx=>x.2.2.2) ((nx+2,[],u0,U.length)) ?_ ?_ (by intro d cs hd;simp only[CJ,DD,BU,C8,D7]at hd ⊢;grind) ?_
 ·exact⟨⟨AI,AI,B5,by simp[zO]⟩,hE0,by simpa using hR⟩
 ·exact I2
 rintro⟨id,K,u,f⟩ m ⟨⟨GF,hm,hKf,huf⟩,hE,hC⟩
 dsimp only at GF hm hKf huf hE hC ⊢
 have A8Z:=Uo.next hv hc hp hE
 have AQX:=hE.2.len
 rw[PN]at AQX
 have hgl:(K.map (D7 U.length)++[AV.v u.length (u.map (vi U.length))]).getD K.length .j=AV.v u.length (u.map (vi U.length)):=A7S
 have hix:(((K.length+1:Nat):Int)-1).toNat=K.length:=A0
 have Xq:=ZF U pw cj A0 (us:=QK (pc U pw cj) u u) (vs:=u) A0 A0 A8Z.1.1 hE.1
 refine BH ?_;refine AA<|sQ λN hN=>?_;simp-dsimp-implicitDefEqProofs(maxSteps:=800000) (disch:=omega)only[go_sem,vi,D7,hix,hgl];refine AC.pure (.of (hF u hE)) ?_;(try simp-dsimp-implicitDefEqProofs(maxSteps:=800000) (disch:=omega)only[go_sem,vi,D7]);apply hN;refine A6 λN1 CW=>sQ λN hN=>?_;simp-dsimp-implicitDefEqProofs(maxSteps:=800000) (disch:=omega)only[go_sem,vi,D7,hix,hgl];refine AC.pure (.of (Xq)) ?_;(try simp-dsimp-implicitDefEqProofs(maxSteps:=800000) (disch:=omega)only[go_sem,vi,D7]);apply hN;refine AK ?_ ?_<;>intro h1
 ·refine T7 ?_;refine BQ ?_;rw[AAB (P:=pc U pw cj) (us:=u) (by rw[h1])]at hC
  rw[<-hC];unfold vcs;rw[show(K++[u]).length=K.length+1 from B5,AZ];exact Vw.IY (AD _ _ _) B5
 have HX:(QK (pc U pw cj) u u).length<u.length:=by
  have:=A8Z.2.1;rcases BL (QK (pc U pw cj) u u).length u.length with g|g
  ·exact g
  exact absurd (A8Z.2.2 A0) h1
 obtain⟨f',rfl,he⟩:=Un (P:=pc U pw cj) huf HX
 apply AF;apply CW;refine gO ?_;refine⟨(m+9+8+3,K++[u],QK (pc U pw cj) u u,f'),?_,by intro d cs hd;simp only[CJ,DD,AZ,BR,BU,D7]at hd ⊢;grind,?_,?_⟩
 ·exact GD
 ·refine⟨⟨AI,AI,(by first|omega|(simp;omega)),AI⟩,A8Z.1,?_⟩;rw[<-hC,he];simp
 exact AI
def Z1(h:BW U pw cj)(hc:HN (pc U pw cj) 0)(us)(hl:us.length<=6)(hu:∀x∈us,T (pc U pw cj) 0 x):DZ prog 59 [D7 U.length us,AU U pw cj] (D7 U.length (QK (pc U pw cj) us us)):=by
 refine BI AY func59 rfl AP ntmps59 results59 (UZ _ _) (λnx cX=>?_)
 refine tG ?_;refine Km (Qj (PV U pw cj h hc us us hl hl hu hu)) ?_;apply DQ;simp-dsimp-implicitDefEqProofs(maxSteps:=800000) (disch:=omega)only[go_sem];skip
def Z2(hl:PR U pw cj)(h:BW U pw cj)(hc:HN (pc U pw cj) 0):DZ prog 18 [CI U pw cj] (.t [vcs U.length (zE (pc U pw cj) U.length (IT U.length)),.i .i64 (0:Nat)]):=by
 have XU:=JI U pw cj hl
 rw[KU ⟨h,hc⟩]at XU
 have Q4:=h.1.1
 have hE0:Uo (pc U pw cj) (IT U.length):=Uo.first h.val hc
 have AQY:=y7 U pw cj h hc 59 [AU U pw cj] (λu hu=>Z1 U pw cj h hc u (by have:=hu.2.len;have PN:(pc U pw cj).n=U.length:=rfl;omega) hu.1) (IT U.length) hE0 (by rw[U7];omega)
 refine BI AY func18 rfl AP ntmps18 results18 (AGL _ _ _) (λnx cX=>?_)
 refine GC ?_;refine BN 1 nx _ rfl (AD _ _ _) ?_
 refine BH ?_;refine A6 λN1 CW=>ZK (XU) ?_;refine AK ?_ ?_<;>intro h1
 ·refine GC ?_;refine BQ ?_;cases h1
 apply AF;apply CW;refine sQ λN hN=>?_;refine FF ?_;refine lV (kN U pw cj A0) ?_
 refine lV (AQY) ?_
 apply hN;refine BQ ?_;rfl
end
end
section
def A4N(b:Bool)(U:C2)(pw:D4)(cj:E6):(Int×D4)×Int:=match b with
 |false=>((0,[]),1)
 |true=>if (U.length:Int)>4 then ((0,[]),3)else ((U.length,OB U pw cj),0)
def AMS(b:Bool)(U:C2)(pw:D4)(cj:E6):AV:=match b with
 |false=> .t [rows [],.i .i64 1]
 |true=> .t [rows (OB U pw cj),.i .i64 0]
def AQZ(b:Bool)(U:C2)(pw:D4)(cj:E6):D4:=match b with
 |false=>[]
 |true=>OB U pw cj
def AR0(b:Bool):Int:=match b with
 |false=>1
 |true=>0
def A90{b U pw cj}:AMS b U pw cj= .t [rows (AQZ b U pw cj),.i .i64 (AR0 b)]:=by cases b<;>rfl
def Own.AR1{a b H r X ids}(h:Own a b H r (Go.Proofs.YtgknbnkmilddhaaGreat.ints X) ids)(hp:0<X.length):∃id,r= .h id 0 X.length/\H id=some (X.map (.i .i64))/\a<=id/\id<b:=by
 rcases h.1.Eu with ⟨h1,_⟩|⟨id,h1,h2,h3⟩
 ·subst h1;simp at hp
 exact⟨id,h1,by rw[RK];exact h3,(h.2.2 id h2).1,(h.2.2 id h2).2⟩
def S5.app{a m m2 q L7 n:Nat}{o:Option Nat}{rs:List AV}{H H1 Hn:HP}{W:D4}{X:C2}(h:S5 a m o rs H W)(hH:∀i,i<m->H1 i=oH H o rs i)
    (hk:∀i,i<m->o≠some i->Hn i=H1 i) (hq:Hn q=some (X.map (.i .i64))) (hd:∀i,m2<=i->Hn i=none) (hn:n=X.length) (h0:m<=q) (h1:q<L7) (h2:L7<m2) (ha:a<=m):
    S5 a m2 (some L7) (rs++[.h q 0 n]) Hn (W++[X]):=by
  refine h.A4A (m0:=m) (m1:=q+1) (Own.ints hq hn h0 A0) (λi q1 q2 q3=>?_) (λ_ _ _=>rfl) hd (A1 _) A0 h2 A0 ha;rw[hk i q2 q3,hH i q2];cases o with
  |none=>rfl
  |some id=>exact AB _ _ (λe=>q3 (by rw[e]))
set_option maxHeartbeats 4000000 in
def TS(U pw cj)(hl:PR U pw cj):cC prog 64 [CI U pw cj] (AMS (tf (BW U pw cj)) U pw cj):=by
 intro nx
 refine ED AY func64 rfl AP ntmps64 results64 (λcX=>?_)
 refine WI ?_;refine BN 1 nx _ rfl (AD _ _ _) ?_
 refine BH ?_;refine A6 λN1 CW=>sQ λN hN=>?_;refine zqA ?_;refine AC.pure (.of (RP U pw cj hl)) ?_;refine zqA ?_;apply hN;refine AK ?_ ?_<;>intro h1
 ·refine WI ?_;refine BQ ?_;rw[JQ h1]
  have h0:Own nx (nx+3+3+2) (CJ DD nx none) .nl (rows []) []:=⟨.nl,B5,B5⟩;exact h0.pair (k:= .i64) (e:=1)
 have h:=h1
 have Q4:=h.1.1
 have fO:=h.1.2.1
 have KW:=h.1.2.2
 apply AF;apply CW;refine WI ?_;refine A6 λN2 DN=>WI ?_;refine AA<|AM (α:=Nat×Option Nat×List AV×HP) (λx=>sl 78 [(1,.p 0 [ints U,rows pw,B6 cj]),(4,oA x.2.1 x.2.2.1.length),(16,ints U),(17,.i .i64 U.length),(18,.i .i64 x.1)]) (λx=>oH x.2.2.2 x.2.1 x.2.2.1) (λx m=>(x.1<=U.length/\nx<=m)/\S5 nx m x.2.1 x.2.2.1 x.2.2.2 (c0 U pw x.1)) (λx=>U.length-x.1) ((0,none,[],DD)) ?_ ?_ (by intro d cs hd;cases hd) ?_
 ·exact⟨⟨A0,AI⟩,S5.start⟩
 ·simp[EJ,EN,sl,ints,rows,B6,oA]
 rintro⟨k,o,rw,Hx⟩ m ⟨⟨hk,hm⟩,hB⟩
 dsimp only at hk hm hB ⊢
 refine WI ?_;refine A6 λN3 DO=>AK ?_ ?_<;>intro h2
 ·have l7:=h.pw (i:=k) A0;have fX:=FQ (h.2.1 k A0);have oE:(WS (WX (pw.getD k []) (pw.getD k []).length)).length<=6000:=by rw[XX];exact l7.len
  have hlen:=hB.len;rw[cT]at hlen;obtain⟨q0,eV⟩:∃q0:Nat,U.getD k 0=q0:=⟨(U.getD k 0).toNat,A0⟩;have Jr:List.map (AV.i .i64) (List.replicate q0 ((k:Int)+1))++List.map (AV.i .i64) (WS (WX (pw.getD k []) (pw.getD k []).length))=(iG U pw k).map (AV.i .i64):=by
   rw[<-AZ];unfold iG;rw[eV];rfl
  have VX:q0+(WS (WX (pw.getD k []) (pw.getD k []).length)).length=(iG U pw k).length:=by
   unfold iG;rw[AH,BZ,eV];rfl
  obtain⟨o2,ho⟩:∃o2,o2=o:=⟨_,rfl⟩;rcases o with _|q
  all_goals
   apply AF;apply DO;refine A6 λN4 FD=>AA<|WI ?_;dsimp only[oA,oH]
   first|have hrw:rw=[]:=hB.no rfl|have hrw:True:=trivial
   (try (obtain⟨i2,i3⟩:=hB.id rfl))
   refine UR AY AP [true,true,true,false,true,false,true,true,true,true,true,false,false,false,false,false,false] AP ?_;(try simp-dsimp-implicitDefEqProofs(maxSteps:=800000) (disch:=omega)only[go_sem,B6,IK,CB,EY,ints,VG,CI,rows,eV]);refine AC.own (nU ((k:Int)+1) q0 A0 A0) (.cons (Vw.ivl (AD _ _ _) rfl) (.cons (.refl _) .nil)) ?_;intro m1 H1 r0 JR SF SM OM;obtain⟨rid,rfl,g1,g2,g3⟩:=OM.AR1 (by rw[BZ];omega);rw[BZ];first|have hc3:H1 q=some rw:=(SM _ A0).trans ((AB _ _ A0).trans (AD _ _ _))|have hc3:True:=trivial
   have hz:H1 (m+1+5+14)=none:=by
    rw[SM _ A0,AB _ _ A0];first|exact hB.dom _ A0|exact(AB _ _ A0).trans (hB.dom _ A0)
   (try simp-dsimp-implicitDefEqProofs(maxSteps:=800000) (disch:=omega)only[go_sem,B6,EY,ints,CI,rows,g1,hc3])
   refine AC.pure (.of (VE (pw.getD k []) (by have:=l7.n;omega) l7.v)) ?_;(try simp-dsimp-implicitDefEqProofs(maxSteps:=800000) (disch:=omega)only[go_sem,B6,EY,ints,CI,rows,g1,hc3])
   refine AC.pure (.of (VH (WX (pw.getD k []) (pw.getD k []).length) (by have:=l7.len;unfold Dz at this;omega) l7.bd)) ?_;(try simp-dsimp-implicitDefEqProofs(maxSteps:=800000) (disch:=omega)only[go_sem,AH,BZ,B6,EY,ints,VG,CI,rows,AGF,g1,hc3,Jr])
   apply FD;apply rQ;refine zqA ?_;refine⟨(k+1,some (m+1+5+15),rw++[.h (m+1+5+13) 0 (q0+(WS (WX (pw.getD k []) (pw.getD k []).length)).length)],CJ (lim m1 (CJ (oN H1 o2) rid none)) (m+1+5+13) (some (List.map (AV.i .i64) (iG U pw k)))),?_,by subst ho;intro d cs hd;dsimp only[oH,oN]at hd;simp only[CJ,lim,B2,hrw,C8]at hd ⊢;grind,?_,?_⟩
   ·simp(disch:=omega) [EJ,EN,sl,DV,ints,rows,B6,oA,hrw]<;>omega
   ·dsimp only;rw[A8T];refine⟨⟨A0,A0⟩,hB.app (H1:=H1) (λi q1=>(SM i A0).trans (AB _ _ A0)) (λi q1 q2=>?_) (AD _ _ _) (λi hi=>?_) VX A0 A0 A0 hm⟩
    ·rw[AB _ _ A0,lim,if_pos A0,AB _ _ A0];subst ho;first|rfl|exact AB _ _ (λe=>q2 (by rw[e]))
    rw[AB _ _ A0,lim,if_neg A0]
   exact AI
 apply AO;apply DN;refine A6 λN5 ID=>WI ?_;refine AA<|AM (α:=Nat×Option Nat×List AV×HP) (λx=>sl 78 [(1,.p 0 [ints U,rows pw,B6 cj]),(4,oA x.2.1 x.2.2.1.length),(42,.i .i64 U.length),(43,.i .i64 x.1)]) (λx=>oH x.2.2.2 x.2.1 x.2.2.1) (λx m=>(x.1<=U.length/\nx<=m)/\S5 nx m x.2.1 x.2.2.1 x.2.2.2 (c0 U pw U.length++OP cj U.length x.1)) (λx=>U.length-x.1) ((0,o,rw,Hx)) ?_ ?_ (by exact Le.refl _) ?_
 ·exact⟨⟨A0,AI⟩,by dsimp only[OP];rw[C5,<-show k=U.length by omega];exact hB.more AI⟩
 ·simp[EJ,EN,sl,ints,rows,B6,oA]
 rintro⟨i,o2,rw2,Hy⟩ m2 ⟨⟨hi,Q8⟩,hB2⟩
 dsimp only at hi Q8 hB2 ⊢
 refine WI ?_;refine A6 λN6 OR=>AK ?_ ?_<;>intro h3
 ·have hci:=h.cj (i:=i) A0;have oY:=zD (cj:=cj) (n:=U.length) i A0;have ASE:U.length*i<=6*6:=CY Q4 A0;apply AF;apply OR;refine A6 λN7 S6=>AA<|WI ?_;refine WI ?_;refine AA<|AM (α:=Nat×Option Nat×List AV×HP) (λx=>sl 78 [(1,.p 0 [ints U,rows pw,B6 cj]),(4,oA x.2.1 x.2.2.1.length),(7,.i .i64 i),(42,.i .i64 U.length),(43,.i .i64 i),(50,rows (cj.getD i [])),(51,.i .i64 (cj.getD i []).length),(52,.i .i64 x.1)]) (λx=>oH x.2.2.2 x.2.1 x.2.2.1) (λx m=>(x.1<=(cj.getD i []).length/\nx<=m)/\S5 nx m x.2.1 x.2.2.1 x.2.2.2 (c0 U pw U.length++OP cj U.length i++c7 cj i x.1)) (λx=>(cj.getD i []).length-x.1) ((0,o2,rw2,Hy)) ?_ ?_ (by exact Le.refl _) ?_
  ·exact⟨⟨A0,AI⟩,by dsimp only;rw[show c7 cj i 0=[]from rfl,C5];exact hB2.more AI⟩
  ·simp[EJ,EN,sl,ints,rows,B6,oA]
  rintro⟨d,o3,rw3,Hz⟩ m3 ⟨⟨hd,U5⟩,hB3⟩;dsimp only at hd U5 hB3 ⊢;refine WI ?_;refine A6 λN8 VK=>AK ?_ ?_<;>intro h4
  ·have l7:=hci.2 d A0;have oE:(WS (WX ((cj.getD i []).getD d []) ((cj.getD i []).getD d []).length)).length<=6000:=by rw[XX];exact l7.len
   have hlen:=hB3.len;rw[AH,AH,cT,nV]at hlen;have Jr:AV.i .i64 (0-((i:Int)+1))::AV.i .i64 ((i:Int)+d+2)::AV.i .i64 ((i:Int)+1)::List.map (AV.i .i64) (WS (WX ((cj.getD i []).getD d []) ((cj.getD i []).getD d []).length))=(dU cj i d).map (AV.i .i64):=by
    simp only[dU,Dz,AZ,BR,BU,HC,C8];rw[show(0-((i:Int)+1))= -(i:Int)-1 by omega,show(i:Int)+d+2=((i+1+d:Nat):Int)+1 by omega]
   have VX:3+(WS (WX ((cj.getD i []).getD d []) ((cj.getD i []).getD d []).length)).length=(dU cj i d).length:=by
    unfold dU Dz;rw[AH];rfl
   have hz1:Hz (m3+1+5+8+10)=none:=hB3.dom _ A0;have hz2:Hz (m3+1+5+8+5)=none:=hB3.dom _ A0;obtain⟨o4,ho⟩:∃o4,o4=o3:=⟨_,rfl⟩;rcases o3 with _|q
   all_goals
    apply AF;apply VK;refine A6 λN9 ZW=>?_;apply AA;dsimp only[oA,oH]
    first|have hrw:rw3=[]:=hB3.no rfl|have hrw:True:=trivial
    (try (obtain⟨i2,i3⟩:=hB3.id rfl))
    refine WI ?_;refine WI ?_;apply rQ;simp-dsimp-implicitDefEqProofs(maxSteps:=800000) (disch:=omega)only[go_sem,B6,IK,CB,EY,ints,VG,CI,rows,Jr];refine AC.pure (.of (VE ((cj.getD i []).getD d []) (by have:=l7.n;omega) l7.v)) ?_
    refine zqA ?_;refine AC.pure (.of (VH (WX ((cj.getD i []).getD d []) ((cj.getD i []).getD d []).length) (by have:=l7.len;unfold Dz at this;omega) l7.bd)) ?_;refine zqA ?_
    apply ZW;apply rQ;refine zqA ?_;refine⟨(d+1,some (m3+1+5+8+11),rw3++[.h (m3+1+5+8+9) 0 (3+(WS (WX ((cj.getD i []).getD d []) ((cj.getD i []).getD d []).length)).length)],CJ (oN Hz o4) (m3+1+5+8+9) (some (List.map (AV.i .i64) (dU cj i d)))),?_,by subst ho;intro d cs hd;dsimp only[oH,oN]at hd;simp only[CJ,B2,hrw,C8]at hd ⊢;grind,?_,?_⟩
    ·simp(disch:=omega) [EJ,EN,sl,DV,ints,rows,B6,oA,hrw]<;>omega
    ·dsimp only;rw[A8U,<-BO];refine⟨⟨A0,A0⟩,hB3.app (H1:=oH Hz _ rw3) (λi q1=>rfl) (λi q1 q2=>?_) (AD _ _ _) (λi hi=>?_) VX A0 A0 A0 U5⟩
     ·rw[AB _ _ A0];subst ho;first|rfl|exact(AB _ _ (λe=>q2 (by rw[e]))).trans (AB _ _ (λe=>q2 (by rw[e]))).symm
     rw[AB _ _ A0];subst ho;first|exact hB3.dom i A0|exact(AB _ _ A0).trans (hB3.dom i A0)
    exact AI
  apply AO;apply S6;apply rQ;refine zqA ?_;have e3:OP cj U.length (i+1)=OP cj U.length i++c7 cj i d:=by rw[OP,show U.length-1-i=d by omega]
  refine BB (i+1,o3,rw3,Hz) ?_ ?_ ?_
  ·simp(disch:=omega) [EJ,EN,sl,DV,ints,rows,B6,oA]<;>omega
  ·exact⟨⟨A0,AI⟩,by dsimp only;rw[e3,<-BO];exact hB3.more AI⟩
  exact AI
 apply AO;apply ID;refine WI ?_;refine BQ ?_;obtain rfl:i=U.length:=A0
 rw[KU h]
 rcases o2 with _|q
 ·exact(hB2.nil (a:=nx) (b:=m2+1+3) (H':=Hy)).pair
 obtain⟨ids,AGA⟩:=hB2.own
 exact(AGA.BV (λi q1 q2=>rfl) (a':=nx) (b':=m2+1+3) A0 A0).pair
def QD(U pw cj)(hl:PR U pw cj):cC prog 21 [CI U pw cj] (iF (A4N (tf (BW U pw cj)) U pw cj)):=by
 have cZ:=hl.o
 intro nx
 refine ED AY func21 rfl AP ntmps21 results21 (λcX=>?_)
 refine QW ?_;refine BN 1 nx _ rfl ((AB _ _ A0).trans (AD _ _ _)) ?_
 refine BH ?_;refine sQ λN hN=>?_;refine Z7 ?_;have hx:=TS U pw cj hl
 rw[A90]at hx
 refine AC.own hx (.cons (.refl _) .nil) ?_
 intro m1 H1 r0 JR SF SM OM
 obtain⟨r1,rfl,EO⟩:=OM.1.sL
 obtain⟨q1,q2,q3⟩:=EO.slice
 have UF:=FE q2
 have qO:H1 (nx+1)=some [.i .i64 0,.nl]:=by rw[SM _ A0];simp(disch:=omega)only[AB,AD]
 refine fY q1 q2 q3 UF ?_
 apply hN;refine A6 λN1 CW=>QW ?_;refine AK ?_ ?_<;>intro h1
 ·refine tF q1 q2 q3 UF qO ?_;refine BQ ?_;rcases Classical.em (BW U pw cj)with hp|hp
  ·rw[KU hp]at h1;exact absurd rfl h1
  rw[JQ hp];exact Own.A8O
 have hp:BW U pw cj:=by
  apply AN;intro hp;rw[JQ hp]at h1;cases h1
 apply AF;apply CW;refine A6 λN2 DN=>QW ?_;refine AK ?_ ?_<;>intro h2
 ·refine tF q1 q2 q3 UF qO ?_;refine BQ ?_;rw[KU hp,A4N,if_pos h2]
  exact Own.A8O
 apply AF;apply DN;refine tF q1 q2 q3 UF qO ?_;refine BQ ?_;rw[KU hp,A4N,if_neg A0]
 rw[KU hp]at EO OM
 have ho:Own (nx+3+7) m1 H1 r1 (rows (OB U pw cj)) JR:=⟨EO,OM.2⟩
 obtain⟨ids,h⟩:=Own.fp (g:=U.length) (ho.BV (H':=CJ H1 (nx+1) (some [AV.i IntKind.i64 U.length,r1])) (λi q1 q2=>AB _ _ A0) (a':=nx) (b':=m1+2+4+7) A0 A0)
 exact h.pair
end
section
def wR(xs Y)(hl:xs.length<=1000)(hY:gV Y)(hp:xs.Perm Y):DZ prog 25 [ints xs] (ints Y):=
 DZ.A65 (IC _) λnx=>(uP xs hl nx).mono λDI H' r ⟨Z,z1,z2,id,e,h1,h2,h3⟩=>by
  have:=yZ z2 hY (z1.trans hp);subst this;rw[e];exact LC.tB (a:=nx) (b:=DI) (LC.mk h3 B5 h1 h2)
def BW.pl{U pw cj}(h:BW U pw cj):PR U pw cj:=by
 have h6:=h.1.1;have hx:∀(v:C2) (i:Int),Pb U v i->v.length<=6:=λv i hv=>by rw[hv.1];exact h6
 refine⟨A0,by have:=h.1.2.1;omega,λi=>?_,by have:=h.1.2.2;omega,λi=>?_,λi j=>?_⟩
 ·by_cases hi:i<U.length
  ·have:=hx _ _ (h.2.2.2 i hi).1;omega
  rw[A5,B8 (by have:=h.1.2.1;omega)];simp
 ·by_cases hi:i<U.length
  ·have:=(h.2.2.2 i hi).2.1;omega
  rw[A5,B8 (by have:=h.1.2.2;omega)];simp
 by_cases hi:i<U.length
 ·by_cases hj:j<(cj.getD i []).length
  ·have:=hx _ _ ((h.2.2.2 i hi).2.2 j hj);omega
  rw[A5,B8 A0];simp
 have:cj.getD i []=[]:=by rw[A5,B8 (by have:=h.1.2.2;omega)];rfl
 rw[this];simp
def A4O{P}:∀(f:Nat) (us:List V),(zE P f us).length<=f+1
 |0,us=>by simp[zE]
 | f+1,us=>by
   rw[zE];split
   ·simp
   have:=A4O (P:=P) f (QK P us us);rw[C6];omega
section
variable(U:C2)(pw:D4)(cj:E6)
def Xg(hl:PR U pw cj):
    (DZ prog 15 [CI U pw cj] (.t [ints [],.i .i64 (1:Nat)])/\DZ prog 16 [CI U pw cj] (.t [ints [],.i .i64 (1:Nat)]))\/
    (∃ (Y:C2) (D:List (List V)) (u:List V) (ot:C2) (qw:D4) (dj:E6),
      (DZ prog 15 [CI U pw cj] (.t [ints Y,.i .i64 (0:Nat)])/\DZ prog 16 [CI U pw cj] (.t [ints Y,.i .i64 (0:Nat)]))/\
      (DZ prog 18 [CI U pw cj] (.t [vcs U.length D,.i .i64 (0:Nat)])/\0<D.length/\D.length<=1000/\(1<D.length->D.getD 1 []=u)/\(¬1<D.length->D.getD (D.length-1) []=u))/\
      (DZ prog 19 [CI U pw cj,D7 U.length u] (fI (CI ot qw dj))/\DZ prog 20 [CI ot qw dj] (.t [.b true,.i .i64 (0:Nat)])/\DZ prog 15 [CI ot qw dj] (.t [ints Y,.i .i64 (0:Nat)]))/\
      (Y.length<=9/\(U.length=0->Y=[])/\U.length<=6)/\
      (0<U.length->DZ prog 21 [CI U pw cj] (iF ((0,[]),3))\/∃(W:D4) (F:List Nat),DZ prog 21 [CI U pw cj] (iF ((U.length,OB U pw cj),0))/\
        DZ prog 22 [fp U.length (OB U pw cj)] (iF ((U.length,W),0))/\DZ prog 23 [fp U.length W] (.t [bG (F.map λx:Nat=>(x:Int)),.i .i64 0])/\
        (∀nx H,AC prog 24 nx H [bG (F.map λx:Nat=>(x:Int))] (zK nx H (ppT F)))/\
        ∀Z:List Nat,Z.Perm (VA F)->DZ prog 25 [ints (Z.map λx:Nat=>(x:Int))] (ints Y))):=by
  by_cases hg:BW U pw cj/\HN (pc U pw cj) 0
  · obtain⟨h,hc⟩:=hg;have hv:=h.val;have hp:∀d,d<(pc U pw cj).n->O8 ((pc U pw cj).o d):=λd hd=>h.2.1 d hd
    have hT:=XS hv;obtain⟨u,hu⟩:∃u,u=QK (pc U pw cj) (IT U.length) (IT U.length):=⟨_,rfl⟩;obtain⟨w,c,Y,f,hI,hf,hfp,l8,hF,CP,hpe⟩:=A7L h hc hu;have hIk:=hI;have MC:RA (pc U pw cj) (Ge (pc U pw cj)) u:=by rw[hu];exact uX hv hc hp
    have hS:=YW hv hc;have Ya:∀x∈u,T (pc U pw cj) 0 x:=by rw[hu];exact A9N hv hc hp hT hT
    have KW:TK (pc U pw cj) u=u:=by
      have h2:=mT hv hc hp Ya;rw[<-MC.gen hv hc hS]at h2;exact(MC.uniq hv hc hS h2).symm
    have hQL:=AGJ h hc hu;have Fw:Y.length<=9:=by have:=hI.le;have:=hI.ii.length_eq;rw[A4]at this;omega
    refine .inr ⟨Y,zE (pc U pw cj) U.length (IT U.length),u,TF U u,WA (pc U pw cj) u,U8 (pc U pw cj) u,⟨P4 U pw cj hl h hc hu ⟨rfl,rfl,rfl⟩ hI,VB U pw cj hl h hc hu ⟨rfl,rfl,rfl⟩ hI⟩,?_,⟨?_,?_,?_⟩,⟨Fw,λh0=>?_,h.1.1⟩,λh0=>?_⟩
    · obtain⟨a,b⟩:=A8Y hv hc hp (Uo.first hv hc) (f:=U.length) (by rw[U7];exact A1 _);have bd:=A4O (P:=pc U pw cj) U.length (IT U.length);have h6:=h.1.1;have PN:(pc U pw cj).n=U.length:=rfl;rw[PN,<-hu]at b;refine⟨Z2 U pw cj hl h hc,a,A0,λq=>?_,λq=>?_⟩
      · rw[if_pos q]at b;exact b
      rw[if_neg q]at b;exact b
    · exact(TB U pw cj hl ⟨h,hc⟩ hS u MC KW λk hk x hx=>uW hv hc (O9 hv (AE _) hk) x hx).pure
    · exact XZ _ _ _ hI.pr.pl hI.pr hI.co hQL
    · generalize TF U u=ot at*
      generalize WA (pc U pw cj) u=qw at*
      generalize U8 (pc U pw cj) u=dj at*
      have hqp:∀d,d<(pc ot qw dj).n->O8 ((pc ot qw dj).o d):=λd hd=>hI.pr.2.1 d hd
      have hnl:=AGI hI.pr.val hI.co hqp λi j Q3 hj=>by
        have l6:j<ot.length:=hj;have hd:=(hI.pr.2.2.2 i A0).2.1;have:=hQL i A0 (j-i-1) A0;rw[show i+1+(j-i-1)=j by omega]at this;exact this
      exact P4 ot qw dj hI.pr.pl hI.pr hI.co hnl.symm (AGK hI.pr hI.co) hI
    · obtain rfl:U=[]:=AX.1 h0;rw[<-hI.sq];rfl
    rcases BL 4 U.length with h4|h4
    · have hf:=(QD U pw cj hl).pure;rw[KU h,A4N,if_pos A0]at hf;exact .inl hf
    have hfo:=(QD U pw cj hl).pure;rw[KU h,A4N,if_neg A0]at hfo;have Wq:=(ZV U.length (OB U pw cj) (A8V h)).pure;rw[KU (Uf h h4),A49,if_neg A0,CQ]at Wq;have htb:=A4J h h4;have hA:=l8 h4;have hao:=jW U.length (oQ U.length (OB U pw cj)) htb h0 (λi=>(f i).toNat) (λi hi=>by have:=hfp i hi;omega) (λk _ hk=>AGH h h4 hf hk) (by rw[A32];exact hA);rw[A32]at hao;refine .inr ⟨_,xC f U.length,hfo,Wq,hao,λnx H=>dQ _ hA hF (CP h0) nx H,λZ hZ=>?_⟩;have hZp:=(hZ.map λx:Nat=>(x:Int)).trans hpe;exact wR _ Y (by rw[hZp.length_eq];omega) hI.sY hZp
  exact .inl ⟨VP U pw cj hl hg,VQ U pw cj hl hg⟩
end
end
section
def Ii(bs)(hb:bs.length<=9223372036854775807):DZ prog 5 [bU bs] (.b (decide ((bs.length:Int)>4096))):=by
 refine BI AY func5 rfl AP ntmps5 results5 (.b _) (λnx cX=>?_)
 refine vT ?_;refine vT ?_;apply DQ;simp-dsimp-implicitDefEqProofs(disch:=omega)only[go_sem];try rfl
def zc:(((0:Nat)):Int)=0:=rfl
def Ih:(0:Int)+0=0:=rfl
def AAC{n:Nat}{D:List (List V)}{i:Nat}(h:i<D.length):(D.map (D7 n)).getD i .j=D7 n (D.getD i []):=by simp[h]
set_option maxRecDepth 100000 in
set_option maxHeartbeats 4000000 in
def Y6(bs)(hb:nK bs):DZ prog 4 [bU bs] (.b true):=by
 have UK:=hb.1
 refine BI AY func4 rfl AP ntmps4 results4 (.b _) (λnx cX=>?_)
 refine VI ?_;refine A6 λN1 CW=>Y5 (Ii bs UK) ?_;refine AK ?_ ?_<;>intro h1
 ·refine VI ?_;apply DQ;simp-dsimp-implicitDefEqProofs(disch:=omega)only[go_sem];all_goals rfl
 apply AF;apply CW;refine sQ λN hN=>?_;refine l4 ?_;refine(TR bs hb A0 _).CD ?_
 rintro m1 H1 r1 SF ⟨U,X,Z,rfl,d1⟩
 have hl:=d1.pl
 rcases Xg U X Z hl with ⟨f1,f2⟩|⟨Y,D,u,ot,qw,dj,⟨f1,f2⟩,⟨f3,hD0,hDl,hD1,hD2⟩,⟨f4,f5,f6⟩,⟨Fw,hY0,Q4⟩,f7⟩
 ·refine FF ?_
  apply hN;refine BN 3 (nx+1+2+2) [ints U,rows X,B6 Z] rfl (AD _ _ _) ?_;refine BH ?_;refine Y5 (f1) ?_;refine Y5 (f2) ?_;refine A6 λN2 DN=>Y5 (LP [] B5) ?_;refine DJ rfl ?_;apply AF;apply DN;refine A6 λN3 DO=>VI ?_;refine HU rfl ?_;refine VI ?_;apply DQ;simp-dsimp-implicitDefEqProofs(disch:=omega)only[go_sem];all_goals rfl
 have AR2:(D.map (D7 U.length)).getD ((D.length:Int)-1).toNat .j=D7 U.length (D.getD (D.length-1) []):=by rw[show((D.length:Int)-1).toNat=D.length-1 by omega];exact AAC A0
 refine FF ?_
 apply hN;refine BN 3 (nx+1+2+2) [ints U,rows X,B6 Z] rfl (AD _ _ _) ?_
 refine BH ?_;refine Y5 (f1) ?_;refine Y5 (f2) ?_;refine A6 λN4 FD=>Y5 (LP Y A0) ?_;refine DJ rfl ?_;apply AF;apply FD;refine A6 λN5 ID=>VI ?_;refine DJ rfl ?_;apply AF;apply ID;refine Y5 (f3) ?_;refine A6 λN6 OR=>A4M ?_;refine AK ?_ ?_<;>intro h2
 ·exact absurd h2 A0
 apply AF;apply OR;refine sQ λN hN=>?_;simp-dsimp-implicitDefEqProofs(disch:=omega)only[go_sem,F0,C4,A4,bG,beq_self_eq_true,bne_self_eq_false,fp,CI,iF,fI,vcs,zc,Ih,AR2];apply hN;refine A6 λN7 S6=>A4M ?_;refine AK ?_ ?_<;>intro h3
 ·have hDv:(D.map (D7 U.length)).getD (1:Int).toNat .j=D7 U.length u:=by rw[show(1:Int).toNat=1 from rfl,AAC A0,hD1 A0]
  apply rQ;simp-dsimp-implicitDefEqProofs(disch:=omega)only[go_sem,F0,C4,A4,bG,beq_self_eq_true,bne_self_eq_false,fp,CI,iF,fI,vcs,zc,Ih,hDv];apply S6;refine Y5 (f4) ?_;refine BN 11 _ [ints ot,rows qw,B6 dj] rfl (AD _ _ _) ?_;refine BH ?_;refine Y5 (f5) ?_;refine Y5 (f6) ?_;refine A6 λN8 VK=>Y5 (LP Y A0) ?_;refine DJ rfl ?_;apply AF;apply VK;refine A6 λN9 ZW=>VI ?_;refine AK ?_ ?_<;>intro h4
  ·have hYe:=hY0 A0;subst hYe;refine VI ?_;apply DQ;simp-dsimp-implicitDefEqProofs(disch:=omega)only[go_sem];all_goals rfl
  have h0:0<U.length:=A0;apply AF;apply ZW;refine sQ λN hN=>?_;refine l4 ?_;rcases f7 h0 with f9|⟨W,F,f9,fa,fb,fc,fd⟩<;>refine AC.pure (.of f9) ?_
  ·refine De ?_
   apply hN;refine A6 λPf R9=>?_;first
   |refine BN 17 _ [.i .i64 U.length,rows (OB U X Z)] rfl (AD _ _ _) ?_
   |refine BN 17 _ [.i .i64 0,rows []] rfl (AD _ _ _) ?_
   refine BH ?_;refine VI ?_;refine HU rfl ?_;refine VI ?_;apply DQ;simp-dsimp-implicitDefEqProofs(disch:=omega)only[go_sem];all_goals rfl
  refine De ?_
  apply hN;refine A6 λXo T3=>?_;first
  |refine BN 17 _ [.i .i64 U.length,rows (OB U X Z)] rfl (AD _ _ _) ?_
  |refine BN 17 _ [.i .i64 0,rows []] rfl (AD _ _ _) ?_
  refine BH ?_;refine VI ?_;refine DJ rfl ?_;apply AF;apply T3;refine Y5 (fa) ?_;refine BN 19 _ [.i .i64 U.length,rows W] rfl (AD _ _ _) ?_;refine BH ?_;refine Y5 (fb) ?_;refine BN 21 _ [ints (F.map λx:Nat=>(x:Int)),.i .i64 0] rfl (AD _ _ _) ?_;refine BH ?_;refine sQ λN hN=>?_;refine l4 ?_;refine(fc _ _).CD ?_
  rintro m7 H7 r7 hm7 ⟨⟨Zq,hZ,rfl⟩,Jd⟩;refine l4 ?_
  apply hN;refine sQ λN hN=>?_;refine l4 ?_;refine Um (fd Zq hZ) ?_
  refine Um (LP Y A0) ?_
  apply hN;apply DQ;simp-dsimp-implicitDefEqProofs(disch:=omega)only[go_sem];all_goals rfl
 rw[hD2 A0]
 apply AF;apply S6;refine Y5 (f4) ?_;refine BN 11 _ [ints ot,rows qw,B6 dj] rfl (AD _ _ _) ?_
 refine BH ?_;refine Y5 (f5) ?_;refine Y5 (f6) ?_;refine A6 λN12 ZL=>Y5 (LP Y A0) ?_;refine DJ rfl ?_;apply AF;apply ZL;refine A6 λN13 dF=>VI ?_;refine AK ?_ ?_<;>intro h5
 ·have hYe:=hY0 A0;subst hYe;refine VI ?_;apply DQ;simp-dsimp-implicitDefEqProofs(disch:=omega)only[go_sem];all_goals rfl
 have h0:0<U.length:=A0
 apply AF;apply dF;refine sQ λN hN=>?_;refine l4 ?_;rcases f7 h0 with f9|⟨W,F,f9,fa,fb,fc,fd⟩<;>refine AC.pure (.of f9) ?_
 ·refine De ?_
  apply hN;refine A6 λN14 p5=>?_;first
  |refine BN 17 _ [.i .i64 U.length,rows (OB U X Z)] rfl (AD _ _ _) ?_
  |refine BN 17 _ [.i .i64 0,rows []] rfl (AD _ _ _) ?_
  refine BH ?_;refine VI ?_;refine HU rfl ?_;refine VI ?_;apply DQ;simp-dsimp-implicitDefEqProofs(disch:=omega)only[go_sem];all_goals rfl
 refine De ?_
 apply hN;refine A6 λN15 Ac=>?_;first
 |refine BN 17 _ [.i .i64 U.length,rows (OB U X Z)] rfl (AD _ _ _) ?_
 |refine BN 17 _ [.i .i64 0,rows []] rfl (AD _ _ _) ?_
 refine BH ?_;refine VI ?_;refine DJ rfl ?_;apply AF;apply Ac;refine Y5 (fa) ?_;refine BN 19 _ [.i .i64 U.length,rows W] rfl (AD _ _ _) ?_
 refine BH ?_;refine Y5 (fb) ?_;refine BN 21 _ [ints (F.map λx:Nat=>(x:Int)),.i .i64 0] rfl (AD _ _ _) ?_
 refine BH ?_;refine sQ λN hN=>?_;refine l4 ?_;refine(fc _ _).CD ?_
 rintro m7 H7 r7 hm7 ⟨⟨Zq,hZ,rfl⟩,Jd⟩
 refine l4 ?_
 apply hN;refine sQ λN hN=>?_;refine l4 ?_;refine Um (fd Zq hZ) ?_
 refine Um (LP Y A0) ?_
 apply hN;apply DQ;simp-dsimp-implicitDefEqProofs(disch:=omega)only[go_sem];all_goals rfl
end
end Go.Proofs.YtgknbnkmilddhaaGreat