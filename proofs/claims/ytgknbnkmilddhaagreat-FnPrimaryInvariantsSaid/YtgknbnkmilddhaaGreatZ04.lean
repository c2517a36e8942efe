import Derived.Test.YtgknbnkmilddhaaGreatZ02
import Derived.Test.YtgknbnkmilddhaaGreatZ03
set_option linter.all false

open Go.Proofs.Tryz
namespace Go.Proofs.YtgknbnkmilddhaaGreat
section
inductive Fz (H H':HP):AV->AV->Prop
 |j (a:AV):Fz H H' a .j
 |refl (a:AV):Fz H H' a a
 |nl:Fz H H' .nl (.v 0 [])
 |h (id o n:Nat) (cs ts:List AV) (h1:H id=some cs) (h0:H' id=none) (h2:o+n<=cs.length) (h3:ts.length=n) (h4:∀(k:Nat) (x y:AV),cs[o+k]? =some x->ts[k]? =some y->Fz H H' x y):Fz H H' (.h id o n) (.v n ts)
 |hs (s id o n:Nat) (cs ts:List AV) (h1:H id=some cs) (h0:H' id=none) (h2:o+n*s<=cs.length) (h3:ts.length=n*s) (h4:∀(k:Nat) (x y:AV),cs[o+k]? =some x->ts[k]? =some y->Fz H H' x y):Fz H H' (.hs s id o n) (.v n ts)
 |q (id o:Nat) (cs ts:List AV) (h1:H id=some cs) (h0:H' id=none) (h3:ts.length=cs.length) (h4:∀(k:Nat) (x y:AV),cs[k]? =some x->ts[k]? =some y->Fz H H' x y):Fz H H' (.q id o) (.p o ts)
 |g (cs ts:List AV) (h3:ts.length=cs.length) (h4:∀(k:Nat) (x y:AV),cs[k]? =some x->ts[k]? =some y->Fz H H' x y):Fz H H' (.g cs) (.g ts)
 |t (cs ts:List AV) (h3:ts.length=cs.length) (h4:∀(k:Nat) (x y:AV),cs[k]? =some x->ts[k]? =some y->Fz H H' x y):Fz H H' (.t cs) (.t ts)
 |v (n:Nat) (cs ts:List AV) (h3:ts.length=cs.length) (h4:∀(k:Nat) (x y:AV),cs[k]? =some x->ts[k]? =some y->Fz H H' x y):Fz H H' (.v n cs) (.v n ts)
 |f (n:Nat) (cs ts:List AV) (h3:ts.length=cs.length) (h4:∀(k:Nat) (x y:AV),cs[k]? =some x->ts[k]? =some y->Fz H H' x y):Fz H H' (.f n cs) (.f n ts)
def eL(H H':HP):Prop:=∀id LI,H' id=some LI->∃cs,H id=some cs/\LI.length=cs.length/\∀(k:Nat) (x y:AV),cs[k]? =some x->LI[k]? =some y->Fz H H' x y
def eL.lb{L H H'}(h:eL H H'){b}:LB L H' b->LB L H b:=by
 rintro⟨id,cs,l,h1,h2,h3⟩;obtain⟨LI,h4,_⟩:=h id cs h1;exact⟨id,LI,l,h4,h2,h3⟩
def Fz.sound{L H H' Av w}(s:SR L H Av w)(hh:eL H H'){a t}(v:Fz H H' a t):∀{u:Value},R L w (MM L H Av) a u->R L w (MM L H' Av) t u:=by
 have hM:∀{x:AV} {u:Value},R L w (MM L H Av) x u->R L w (MM L H' Av) x u:=λh=>h.mono (λ_ _ h=>h) (λ_ _ _=>rfl) (λ_ _ h=>h.imp id hh.lb)
 have eF:∀(id:Nat) (cs:List AV) (l:Loc),H id=some cs->H' id=none->L id=some l->¬MM L H' Av l.IY:=by
   rintro id cs l h1 h0 hl (hb|⟨id',LI,l',g1,g2,g3⟩)
   ·exact s.av id cs l h1 hl hb
   obtain⟨AOG,g4,_⟩:=hh id' LI g1;have:=s.inj id' id AOG cs l' l g4 h1 g2 hl g3;rw[this,h0]at g1;cases g1
 induction v with
 |j a=>intro u h;exact .j u
 |refl a=>intro u h;exact hM h
 |nl=>intro u h;rw[h.Q1];exact .v0 _ _
 | h id o n cs ts h1 h0 h2 h3 h4 ih=>
   intro u h;obtain⟨l,hl,JO⟩:=s.node id cs h1;cases h with
   |h _ _ _ l' ad cp TT hn hc ha VW=>
    rw[hl]at TT;cases TT;obtain⟨arr,e,e2,e3,e4,e5⟩:=JO.ex VW;by_cases PN:n=0
    ·subst PN;have:ts=[]:=AX.1 h3;subst this;exact .v0 _ _
    rw[ha.resolve_left A0];have Q6:∀k,k<n->∃u,arr[l.off+o+k]? =some u/\R L w (MM L H Av) (cs.getD (o+k) .j) u:=by
     intro j hj;have HX:o+j<cs.length:=A0;obtain⟨u,h3,h4⟩:=e5 (o+j) cs[o+j] (A9 HX);exact⟨u,by rw[DS];exact h3,by simpa[HX]using h4⟩
    refine .v n ts l.IY (l.off+o) cp arr e _ (λk=>arr.getD (l.off+o+k) undef) (eF id cs l h1 h0 hl) e2 hn ?_ ?_
    ·intro k hk;obtain⟨u,h6,_⟩:=Q6 k A0;rw[h6];simp[h6]
    intro k y hy;have hk:=(AL.1 hy).1;obtain⟨u,h6,h7⟩:=Q6 k A0;have HX:o+k<cs.length:=A0;have hx:cs[o+k]? =some (cs.getD (o+k) .j):=by simp[HX]
    have:=ih k _ y hx hy h7;rw[show arr.getD (l.off+o+k) undef=u by simp[h6]];exact this
 | hs z id o n cs ts h1 h0 h2 h3 h4 ih=>
   intro u h;obtain⟨l,hl,JO⟩:=s.node id cs h1;cases h with
   |hs _ _ _ _ l' ad cp TT hn hc ha VW=>
    rw[hl]at TT;cases TT;obtain⟨arr,e,e2,e3,e4,e5⟩:=JO.ex VW;by_cases PN:n=0
    ·subst PN;have:ts=[]:=AX.1 (by simpa using h3);subst this;exact .v0 _ _
    rw[ha.resolve_left A0];have Q6:∀k,k<n*z->∃u,arr[l.off+o+k]? =some u/\R L w (MM L H Av) (cs.getD (o+k) .j) u:=by
     intro j hj;have HX:o+j<cs.length:=A0;obtain⟨u,h3,h4⟩:=e5 (o+j) cs[o+j] (A9 HX);exact⟨u,by rw[DS];exact h3,by simpa[HX]using h4⟩
    refine .v n ts l.IY (l.off+o) cp arr e _ (λk=>arr.getD (l.off+o+k) undef) (eF id cs l h1 h0 hl) e2 hn ?_ ?_
    ·intro k hk;obtain⟨u,h6,_⟩:=Q6 k A0;rw[h6];simp[h6]
    intro k y hy;have hk:=(AL.1 hy).1;obtain⟨u,h6,h7⟩:=Q6 k A0;have HX:o+k<cs.length:=A0;have hx:cs[o+k]? =some (cs.getD (o+k) .j):=by simp[HX]
    have:=ih k _ y hx hy h7;rw[show arr.getD (l.off+o+k) undef=u by simp[h6]];exact this
 | q id o cs ts h1 h0 h3 h4 ih=>
   intro u h;obtain⟨l,hl,JO⟩:=s.node id cs h1;obtain⟨l',⟨TT,VW⟩,hu⟩:=h.y8;rw[hl]at TT;cases TT;obtain⟨arr,e,e2,e3,e4,e5⟩:=JO.ex VW;rw[hu];refine .p o ts l.IY l.off arr e _ (λk=>arr.getD (l.off+k) undef) (eF id cs l h1 h0 hl) e2 ?_ ?_
   ·intro k hk;obtain⟨u,h6,_⟩:=e5 k cs[k] (A9 A0);rw[h6];simp[h6]
   intro k y hy;have hk:=(AL.1 hy).1;obtain⟨u,h6,h7⟩:=e5 k cs[k] (A9 A0);have:=ih k _ y (A9 A0) hy h7;rw[show arr.getD (l.off+k) undef=u by simp[h6]];exact this
 | g cs ts h3 h4 ih=>
   intro u h;cases h with
   |g _ us hs hr=>
    refine .g ts us A0 ?_;intro k y hy;have hk:=(AL.1 hy).1;have hx:cs[k]? =some cs[k]:=A9 A0;exact ih k _ y hx hy (hr k _ hx)
 | t cs ts h3 h4 ih=>
   intro u h;cases h with
   |t _ us hs hr=>
    refine .t ts us A0 ?_;intro k y hy;have hk:=(AL.1 hy).1;have hx:cs[k]? =some cs[k]:=A9 A0;exact ih k _ y hx hy (hr k _ hx)
 | f n cs ts h3 h4 ih=>
   intro u h;cases h with
   |f _ _ us hs hr=>
    refine .f n ts us A0 ?_;intro k y hy;have hk:=(AL.1 hy).1;have hx:cs[k]? =some cs[k]:=A9 A0;exact ih k _ y hx hy (hr k _ hx)
 | v n cs ts h3 h4 ih=>
   intro u h;cases h with
   |v0 a cp=>
    have:ts=[]:=AX.1 (by simpa using h3);subst this;exact .v0 _ _
   |v _ _ b off cp arr e f us hm hb hn hu hr=>
    refine .v n ts b off cp arr e f us (λh=>hm (h.imp id hh.lb)) hb hn (λk hk=>hu k A0) ?_;intro k y hy;have hk:=(AL.1 hy).1;have hx:cs[k]? =some cs[k]:=A9 A0;exact ih k _ y hx hy (hr k _ hx)
def SR.fz{L H H' Av w}(s:SR L H Av w)(h:eL H H'):SR L H' Av w:=by
 refine⟨?_,?_,?_,s.cW⟩
 ·intro id LI GF;obtain⟨cs,h1,h2,h3⟩:=h id LI GF;obtain⟨l,h4,JO⟩:=s.node id cs h1;exact⟨l,h4,JO.trans rfl h2 λk x y hx hy u Df=>(h3 k x y hx hy).sound s h Df⟩
 ·intro i i' c c' l l' h1 h2;obtain⟨d,g1,_⟩:=h i c h1;obtain⟨d',g2,_⟩:=h i' c' h2;exact s.inj i i' d d' l l' g1 g2
 intro i c l h1;obtain⟨d,g1,_⟩:=h i c h1;exact s.av i d l g1
def fzs(H H':HP):List AV->List AV->Prop
 |[],[]=>True
 |x::xs,y::ys=>Fz H H' x y/\fzs H H' xs ys
 |_,_=>False
structure WkF(s s':St):Prop where
 sl:fzs s.H s'.H s.t s'.t
 hp:eL s.H s'.H
 nx:s.nx<=s'.nx
def Og{H H'}:∀{xs ys:List AV},fzs H H' xs ys->ys.length=xs.length/\∀(k:Nat) (y:AV),ys[k]? =some y->∃x,xs[k]? =some x/\Fz H H' x y:=by
 intro xs;induction xs with
 |nil=>intro ys h;cases ys with|nil=>exact⟨rfl,B5⟩|cons=>exact h.elim
 | cons x xs ih=>
   intro ys h;cases ys with
   |nil=>exact h.elim
   | cons y ys=>
     obtain⟨h1,h2⟩:=ih h.2;refine⟨by simp[h1],?_⟩;intro k z hk;cases k with
     |zero=>simp at hk;subst hk;exact⟨x,rfl,h.1⟩
     |succ k=>exact h2 k z (by simpa using hk)
def Cn.fz{cX s s' L a w}(c:Cn cX s L a w)(h:WkF s s'):Cn cX s' L a w:=by
 obtain⟨h1,h2,h3⟩:=h;obtain⟨h4,h5⟩:=Og h1;refine⟨c.df,by rw[c.sz,h4],?_,c.sr.fz h2,λi hi=>c.fr i A0,by have:=c.nx;omega,c.lo,?_⟩
 ·intro k y hk;obtain⟨x,h6,h7⟩:=h5 k y hk;exact h7.sound c.sr h2 (c.sl k x h6)
 exact⟨c.st.le,c.st.os,c.st.tape,c.st.output,c.st.size,c.st.BV,λb hb hl=>c.st.old b hb (h2.lb hl)⟩
def AW.fz{cX P c s s' K}(h:WkF s s')(hs:AW cX P c s' K):AW cX P c s K:=
 λL a w Q hc hQ=>hs L a w Q (hc.fz h) hQ
def sM{H H'}:∀{xs:List AV},fzs H H' xs xs:=by
 intro xs;induction xs with
 |nil=>trivial
 |cons x xs ih=>exact⟨.refl _,ih⟩
def iX{H H'}:∀{xs:List AV} {k:Nat} {x y:AV},xs[k]? =some x->Fz H H' x y->fzs H H' xs (xs.set k y):=by
 intro xs;induction xs with
 |nil=>intro k x y h;simp at h
 | cons z zs ih=>
   intro k x y h hf;cases k with
   |zero=>simp at h;subst h;exact⟨hf,sM⟩
   |succ k=>exact⟨.refl _,ih (by simpa using h) hf⟩
def eL.del{H id}:eL H (CJ H id none):=by
 intro i LI h;by_cases e:i=id
 ·subst e;rw[AD]at h;cases h
 rw[AB _ _ e]at h;exact⟨LI,h,rfl,λk x y h1 h2=>by rw[h1]at h2;cases h2;exact .refl _⟩
def IQ{cX P c s K}(k id n cs)(hk:s.t[k]? =some (.h id 0 n))(hc:s.H id=some cs)(hn:cs.length=n)(hs:AW cX P c ⟨s.t.set k (.v n cs),CJ s.H id none,s.nx⟩ K):AW cX P c s K:=
 AW.fz (s':=⟨s.t.set k (.v n cs),CJ s.H id none,s.nx⟩) ⟨iX hk (.h id 0 n cs cs hc (AD _ _ _) A0 hn (λk x y h1 h2=>by rw[BS,h2]at h1;cases h1;exact .refl _)),eL.del,A1 _⟩ hs
def DA{P Γ}(hG:U2 P Γ){f fn c n rs}(hf:P.funcs[f]? =some fn)(hb:fn.body=some c)(hn:(fn.name== "runtime.NumGoroutine")=false)(Jw:fn.ntmps=n)(oV:fn.results=rs){xs r}(hr:NR r)(h:∀nx (cX:Ctx),AW cX P c ⟨xs++List.replicate (n-xs.length) .j,DD,nx⟩ (zQ Γ rs.toList λ_ H' r'=>Vw H' r' r)):DZ P f xs r:=by
 refine⟨⟨fn,hf,by rw[hb];rfl,hn⟩,?_⟩;rintro L M w us hM ⟨nx,GM⟩ ha;refine((ED hG hf hb hn Jw oV (h nx)).2 L M w us (fT hM) GM (by rw[fU];exact ha)).mono ?_;rintro e w' ⟨u,r',L',DI,H',g1,g0,g2,g3,g4,g5,g6,g7⟩;refine⟨u,g1,⟨λ_ _ h=>h,g6.os,g6.tape,g6.output,g6.size,g6.BV,λb _ hb=>absurd hb SG⟩,(g0.sound g5 g7).nr hr⟩
def zT(a):NR (rows a):= .v _ _ (λk y hk=>by
 obtain⟨z,_,rfl⟩:=AQ.1 (D3 hk);exact IC z)
def xG(a)(ha:a.length<=1099511627776):DZ prog 87 [ints a] (ints a):=by
 have:=(Vh.aco (λnx=>IM a ha nx DD)).pure;rwa [<-sJ]at this
def ACU(x):(∀z∈ [ints x],one z=true)=True:=by
 refine eq_true (λz hz=>?_);rw[BY.1 hz];rfl
def A5O{u:List AV}{k:Nat}:List.take k (List.take k u)=List.take k u:=by rw[NH,F9]
def ACV(n cs):(∀z∈ [AV.v n cs],one z=true)=True:=by
 refine eq_true (λz hz=>?_);rw[BY.1 hz];rfl
def A5P{α:Type}{f:α->AV}{u:List α}{k:Nat}:List.take k (List.map f (List.take k u))=List.map f (List.take k u):=by rw[<-JS,NH,F9]
attribute [go_sem] ACV A5P ACU A5O CC
def Le.del{H j}(h:H j=none):Le H (CJ H j none):=by
 intro i c hi;by_cases e:i=j
 ·subst e;rw[h]at hi;cases hi
 rw[AB _ _ e];exact hi
def Vw.fr{H id n xs}(h:H id=some xs)(hn:xs.length=n):Vw H (.h id 0 n) (.v n xs):=
 .h id 0 n _ _ h A0 hn (λk x y hx hy=>by rw[BS,hy]at hx;cases hx;exact .refl _)
def oA:Option Nat->Nat->AV
 |none,_=> .nl
 |some id,k=> .h id 0 k
def oH(H:HP):Option Nat->List AV->HP
 |none,_=>H
 |some id,cs=>CJ H id (some cs)
def Zv(k n):(∀z∈ [AV.i k n],one z=true)=True:=by
 refine eq_true (λz hz=>?_);rw[BY.1 hz];rfl
attribute [go_sem] Zv
def cF{H id n xs}(h:H id=some (xs.map (.i .i64)))(hn:n=xs.length):Vw H (.h id 0 n) (ints xs):=by
 subst hn;exact .h id 0 _ _ _ h B5 B5 (λk x y hx hy=>by rw[BS,hy]at hx;cases hx;exact .refl _)
def lim(m:Nat)(H:HP):HP:=λi=>if i<m then H i else none
def BN{cX P c s K}(k id cs)(hk:s.t[k]? =some (.q id 0))(hc:s.H id=some cs)(hs:AW cX P c ⟨s.t.set k (.p 0 cs),CJ s.H id none,s.nx⟩ K):AW cX P c s K:=
 AW.fz (s':=⟨s.t.set k (.p 0 cs),CJ s.H id none,s.nx⟩) ⟨iX hk (.q id 0 cs cs hc (AD _ _ _) rfl (λk x y h1 h2=>by rw[h2]at h1;cases h1;exact .refl _)),eL.del,A1 _⟩ hs
def KD{α β:Type}{f:α->β}{xs:List α}:(xs.map f).take xs.length=xs.map f:=AJ (by rw[A4];exact A1 _)
def AC.fz{P f nx H H' xs ts Q}(hh:eL H H')(ha:fzs H H' xs ts)(h:AC P f nx H' ts Q):AC P f nx H xs Q:=by
 refine⟨h.1,λL Av w us hs GM Zw=>(h.2 L Av w us (hs.fz hh) GM ?_).mono ?_⟩
 ·obtain⟨h4,h5⟩:=Og ha;refine⟨by rw[Zw.1,h4],λk y hk=>?_⟩;obtain⟨x,h6,h7⟩:=h5 k y hk;exact h7.sound hs hh (Zw.2 k x h6)
 rintro e w' ⟨u,r,L',DI,H2,h1,h2,h3,h4,h5,h6,h7,h8⟩;exact⟨u,r,L',DI,H2,h1,h2,h3,h4,h5,h6,⟨h7.le,h7.os,h7.tape,h7.output,h7.size,λb hb hn=>h7.BV b hb (λhl=>hn (hh.lb hl)),λb hb hl=>hh.lb (h7.old b hb hl)⟩,h8⟩
def Fz.IY{H id n cs}(hc:H id=some cs)(hn:cs.length=n):Fz H (CJ H id none) (.h id 0 n) (.v n cs):=
 .h id 0 n cs cs hc (AD _ _ _) A0 hn (λk x y h1 h2=>by rw[BS,h2]at h1;cases h1;exact .refl _)
def oN(H:HP):Option Nat->HP
 |none=>H
 |some id=>CJ H id none
structure S5(nx m:Nat)(o:Option Nat)(rs:List AV)(H:HP)(W:D4):Prop where
 ex:∃ids,PO H rs (W.map ints) ids/\ids.Nodup/\(∀i∈ids,nx<=i/\i<m)/\(∀id,o=some id->id∉ids/\nx<=id/\id<m)
 no:o=none->rs=[]
 dom:∀i,m<=i->H i=none
def S5.start{nx m}:S5 nx m none [] DD []:=⟨⟨[],.nil,B5,B5,B5⟩,λ_=>rfl,λ_ _=>rfl⟩
def S5.len{nx m o rs H W}(h:S5 nx m o rs H W):rs.length=W.length:=by
 obtain⟨ids,h1,_⟩:=h.ex;have:=h1.len;simpa using this.symm
def S5.more{nx m m' o rs H W}(h:S5 nx m o rs H W)(hm:m<=m'):S5 nx m' o rs H W:=by
 obtain⟨ids,h1,h2,h4,h5⟩:=h.ex;exact⟨⟨ids,h1,h2,λi hi=>⟨(h4 i hi).1,by have:=(h4 i hi).2;omega⟩,λid GF=>⟨(h5 id GF).1,(h5 id GF).2.1,by have:=(h5 id GF).2.2;omega⟩⟩,h.no,λi hi=>h.dom i A0⟩
def S5.own{nx m id rs H W}(h:S5 nx m (some id) rs H W):∃ids,Own nx m (CJ H id (some rs)) (.h id 0 rs.length) (rows W) ids:=by
 have hl:=h.len;obtain⟨ids,h1,h2,h4,h5⟩:=h.ex;obtain⟨q1,q3,q4⟩:=h5 id rfl;refine⟨id::ids,?_,by simp[q1,h2],?_⟩
 ·have:=Ow.h (H:=CJ H id (some rs)) id rs (W.map ints) ids (AD _ _ _) (h1.BV λi hi=>by
   rw[AB _ _ (λe=>q1 (by rw[<-e];exact hi))])
  rw[hl]at this ⊢;exact this
 intro i hi;rcases BJ.1 hi with rfl|hi
 ·exact⟨q3,q4⟩
 exact h4 i hi
def S5.nil{nx m a b rs H H' W}(h:S5 nx m none rs H W):Own a b H' .nl (rows W) []:=by
 have h1:=h.no rfl;have h2:=h.len;rw[h1]at h2;have h3:W=[]:=AX.1 h2.symm;subst h3;exact⟨.nl,B5,B5⟩
def S5.id{nx m id o rs H W}(h:S5 nx m o rs H W)(ho:o=some id):nx<=id/\id<m:=by
 obtain⟨ids,_,_,_,h5⟩:=h.ex;exact(h5 id ho).2
def AC.frame{P f nx H xs Q}(h:AC P f nx DD xs Q):AC P f nx H xs λDI H' r=>∃H0,Q DI H0 r/\(∀i,i<nx->H' i=H i)/\∀i,nx<=i->H' i=H0 i:=by
 refine⟨h.1,λL Av w us hs GM ha=>(h.2 L (MM L H Av) w us (fT (Ns hs)) GM (by rw[fU];exact ha)).mono ?_⟩;rintro e w' ⟨u,r,L',DI,H0,h1,h2,h3,h4,h5,h6,h7,h8⟩;let H2:HP:=λi=>if i<nx then H i else H0 i
 have IA:∀i,i<nx->H2 i=H i:=λi hi=>by simp only[H2,hi,if_true]
 have LH:∀i,nx<=i->H2 i=H0 i:=λi hi=>by simp only[H2];rw[if_neg A0]
 have Y8:∀b,b<w.heap.size->w'.heap[b]? =w.heap[b]? :=λb hb=>h7.BV b hb SG
 have hHn:∀i cs,H i=some cs->i<nx:=λi cs hi=>by
  apply AN;intro hn;obtain⟨l,g1,_⟩:=hs.node i cs hi;rw[GM i A0]at g1;cases g1
 have live:∀i cs,H2 i=some cs->(i<nx/\H i=some cs)\/(nx<=i/\H0 i=some cs):=by
  intro i cs hi;rcases BL i nx with h|h
  ·rw[IA i h]at hi;exact .inl ⟨h,hi⟩
  rw[LH i h]at hi;exact .inr ⟨h,hi⟩
 have UL:∀i cs l,H0 i=some cs->L' i=some l->w.heap.size<=l.IY:=by
  intro i cs l g1 g2;apply AN;intro HX;exact SG (h7.old l.IY A0 ⟨i,cs,l,g1,g2,rfl⟩)
 have qL:∀b,LB L' H2 b->LB L H b\/LB L' H0 b:=by
  rintro b ⟨i,cs,l,g1,g2,g3⟩;rcases live i cs g1 with ⟨q1,q2⟩|⟨q1,q2⟩
  ·exact .inl ⟨i,cs,l,q2,by rw[<-h5 i q1];exact g2,g3⟩
  exact .inr ⟨i,cs,l,q2,g2,g3⟩
 have hMM:∀b,MM L' H2 Av b->MM L' H0 (MM L H Av) b:=by
  rintro b (hb|hb)
  ·exact .inl (.inl hb)
  exact(qL b hb).elim (λh=> .inl (.inr h)) .inr
 have M4:Step L H w L' H2 w':=by
  refine⟨h7.le,h7.os,h7.tape,h7.output,h7.size,λb hb _=>Y8 b hb,?_⟩;rintro b hb hl;rcases qL b hl with g|⟨i,cs,l,g1,g2,g3⟩
  ·exact g
  have:=UL i cs l g1 g2;omega
 refine⟨u,r,L',DI,H2,h1,⟨H0,h2,IA,LH⟩,h3,h4,h5,⟨?_,?_,?_,λb hb=>GA (hs.cW b hb) h7.size⟩,M4,h8.mono (λ_ _ h=>h) (λ_ _ _=>rfl) (λb _ hb=>hMM b hb)⟩
 ·intro i cs hi;rcases live i cs hi with ⟨g4,g5⟩|⟨g4,g5⟩
  ·obtain⟨l,g7,JO⟩:=hs.node i cs g5;exact⟨l,by rw[h5 i g4];exact g7,JO.mono (Y8 _ JO.lt) λk x hk c g13=>g13.step M4⟩
  obtain⟨l,g7,JO⟩:=h6.node i cs g5;exact⟨l,g7,JO.mono rfl λk x hk c g13=>g13.mono (λ_ _ h=>h) (λ_ _ _=>rfl) (λb _ hb=>hMM b hb)⟩
 ·intro i i' cs LI l l' g1 g2 g3 g4 g5;rcases live i cs g1 with ⟨q1,q2⟩|⟨q1,q2⟩<;>rcases live i' LI g2 with ⟨q4,q5⟩|⟨q4,q5⟩
  ·exact hs.inj i i' cs LI l l' q2 q5 (by rw[<-h5 i q1];exact g3) (by rw[<-h5 i' q4];exact g4) g5
  ·have a1:=a7 hs ⟨i,cs,l,q2,by rw[<-h5 i q1];exact g3,rfl⟩;have a2:=UL i' LI l' q5 g4;omega
  ·have a1:=a7 hs ⟨i',LI,l',q5,by rw[<-h5 i' q4];exact g4,rfl⟩;have a2:=UL i cs l q2 g3;omega
  exact h6.inj i i' cs LI l l' q2 q5 g3 g4 g5
 intro i cs l g1 g2;rcases live i cs g1 with ⟨q1,q2⟩|⟨q1,q2⟩
 ·exact hs.av i cs l q2 (by rw[<-h5 i q1];exact g2)
 exact λhv=>h6.av i cs l q2 g2 (.inl hv)
structure gA(a m:Nat)(id:Nat)(rs:List AV)(H:HP)(X:List AV):Prop where
 ex:∃ids,PO H rs X ids/\ids.Nodup/\(∀i∈ids,a<=i/\i<m)/\id∉ids
 at':H id=some rs
 lo:a<=id
 hi:id<m
def gA.len{a m id rs H X}(h:gA a m id rs H X):X.length=rs.length:=by
 obtain⟨⟨ids,h1,_⟩,_⟩:=h;exact h1.len
def gA.own{a m id n rs H X}(h:gA a m id rs H X)(hn:n=rs.length):∃ids,Own a m H (.h id 0 n) (.v X.length X) ids:=by
 have hl:=h.len;obtain⟨⟨ids,h1,h2,h3,h4⟩,h5,h6,h7⟩:=h;subst hn;refine⟨id::ids,?_,C1.2 ⟨h4,h2⟩,?_⟩
 ·rw[hl];exact Ow.h id rs X ids h5 h1
 intro i hi;rcases BJ.1 hi with rfl|hi
 ·exact⟨h6,h7⟩
 exact h3 i hi
def Vw.IY{H id n cs}(hc:H id=some cs)(hn:n=cs.length):Vw H (.h id 0 n) (.v n cs):=by
 subst hn;exact .h id 0 cs.length cs cs hc A0 rfl (λk x y hx hy=>by rw[BS,hy]at hx;cases hx;exact .refl _)
def wU.rfl{H}:∀{cs:List AV},wU H cs cs:=by
 intro cs;induction cs with
 |nil=>exact .nil
 |cons c cs ih=>exact .cons (.refl _) ih
def Zx(a):NR (B6 a):= .v _ _ (λk y hk=>by
 simp only[BF,CG]at hk;obtain⟨z,_,rfl⟩:=hk;exact zT z)
def FE{r}(h:one r=true):(∀z∈ [r],one z=true)=True:=eq_true (λz hz=>by rw[BY.1 hz];exact h)
def BX{cX P c s K}(h:∀G,s.H=G->AW cX P c ⟨s.t,G,s.nx⟩ K):AW cX P c s K:=h _ rfl
section
variable{P:Program}{Γ:KT}
section
variable{cX:Ctx}
def eF(ops:List Oper)(m b:Nat):Bool:=ops.zipIdx.all λ(o,i)=> !(decide (b<i)&& decide (i<m))|| !(lL o.op||lays o.op)
end
end
end
section
section
variable{P:Program}{Γ:KT}
def Io(o:Oper):List Nat:=o.op.operands.toList.filterMap fun| .tmp t=>some t|_=>none
def ACW(ops:List Oper)(m:List Bool):Bool:=
 let cl:=cls ops []
 (ops.zipIdx.all λ(o,j)=>o.after.toList.all λe=> !Region.binds .any e||e.on<j)&&
 (ops.all λo=>o.guard.isNone)&&
 (ops.zipIdx.all λ(o,j)=>
   if m.getD j false=true then
    !lays o.op &&
    (match o.dst with|some d=>ops.zipIdx.all λ(o',i)=>i==j|| !(o'.dst==some d)|none=>false)&&
    ((Io o).all λu=>ops.zipIdx.all λ(o',i)=> !(o'.dst==some u)||(if m.getD i false=true then decide (i<j)&& wt ops cl i j else wt ops cl j i))
   else
    ((List.range j).all λi=>m.getD i false||wt ops cl i j)&&
    ((Io o).all λu=>ops.zipIdx.all λ(o',i)=> !(m.getD i false && o'.dst==some u)||wt ops cl i j))
structure AIY(ops:List Oper)(m:List Bool):Prop where
 lt:∀j o,ops[j]? =some o->∀e∈o.after.toList,Region.binds .any e=true->e.on<j
 g:∀(j:Nat) (o:Oper),ops[j]? =some o->o.guard=none
 fl:∀j o,ops[j]? =some o->m.getD j false=true->lays o.op=false/\(∃d,o.dst=some d/\∀i o',ops[i]? =some o'->i≠j->o'.dst≠some d)/\
  ∀u,u∈Io o->∀i o',ops[i]? =some o'->o'.dst=some u->(m.getD i false=true/\i<j/\MU ops i j)\/(m.getD i false=false/\MU ops j i)
 sp:∀j o,ops[j]? =some o->m.getD j false=false->(∀i,i<j->m.getD i false=false->MU ops i j)/\
  ∀u,u∈Io o->∀i o',ops[i]? =some o'->m.getD i false=true->o'.dst=some u->MU ops i j
def QH{ops:List Oper}{f:Oper×Nat->Bool}(h:ops.zipIdx.all f=true){j:Nat}{o:Oper}(ho:ops[j]? =some o):f (o,j)=true:=
 BM.1 h (o,j) (List.mem_iff_getElem?.2 ⟨j,by rw[List.getElem?_zipIdx,ho];simp⟩)
def Kd{ops m}(h:ACW ops m=true):AIY ops m:=by
 unfold ACW at h;simp only[CU]at h;obtain⟨⟨h1,h2⟩,h3⟩:=h;refine⟨?_,?_,?_,?_⟩
 ·intro j o ho e he hb;have:=BM.1 (QH h1 ho) e he;simpa[hb]using this
 ·intro j o ho;have:=BM.1 h2 o (D3 ho);simpa using this
 ·intro j o ho hm;have h4:=QH h3 ho;simp only[hm,if_true,CU]at h4;obtain⟨⟨h5,h6⟩,h7⟩:=h4;refine⟨by simpa using h5,?_,?_⟩
  ·cases hd:o.dst with
   |none=>rw[hd]at h6;cases h6
   | some d=>
     rw[hd]at h6;refine⟨d,rfl,λi o' hi Q3 he=>?_⟩;have:=QH h6 hi;simp[Q3,he]at this
  intro u hu i o' hi he;have h8:=QH (BM.1 h7 u hu) hi;simp only[he,beq_self_eq_true,C4,FA]at h8;split at h8
  ·rename_i xH;simp only[CU,decide_eq_true_eq]at h8;exact .inl ⟨xH,h8.1,NT h8.2⟩
  rename_i xH;exact .inr ⟨by simpa using xH,NT h8⟩
 intro j o ho hm;have h4:=QH h3 ho;simp only[hm,EG,if_false,CU]at h4;obtain⟨h5,h6⟩:=h4;refine⟨?_,?_⟩
 ·intro i Q3 xH;have:=BM.1 h5 i (B3.2 Q3);simp only[xH,FA]at this;exact NT this
 intro u hu i o' hi xH he;have h8:=QH (BM.1 h6 u hu) hi;simp only[xH,he,beq_self_eq_true,FR,C4,FA]at h8;exact NT h8
def PQ(Γ:KT)(P:Program)(base:Nat):List Bool->List Oper->Nat->List AV->(List AV->Prop)->Prop
 |true::m,o::rest,i,t,k=>eC Γ P o.op t DD (base+i) λr _=>PQ Γ P base m rest (i+1) (EX t o.dst r) k
 |false::m,_::rest,i,t,k=>PQ Γ P base m rest (i+1) t k
 |[],_,_,t,k=>k t
 |_::_,[],_,t,k=>k t
def MW(Γ:KT)(P:Program)(base:Nat):List Bool->List Oper->Nat->St->(St->Prop)->Prop
 |true::m,_::rest,i,s,K=>MW Γ P base m rest (i+1) s K
 |false::m,o::rest,i,s,K=>SZ Γ P o.dst o.op (base+i) s λs'=>MW Γ P base m rest (i+1) s' K
 |[],o::rest,i,s,K=>SZ Γ P o.dst o.op (base+i) s λs'=>MW Γ P base [] rest (i+1) s' K
 |_,[],_,s,K=>K s
def yF{base i m s K}(h:MW Γ P base m [] i s K):K s:=by
 cases m with
 |nil=>simpa[MW]using h
 |cons b m=>cases b<;>simpa[MW]using h
def Zy{base i m o rest s K}(hm:m.getD 0 false=true)(h:MW Γ P base m (o::rest) i s K):MW Γ P base (m.drop 1) rest (i+1) s K:=by
 cases m with
 |nil=>simp at hm
 | cons b m=>
   simp at hm;subst hm;simpa[MW]using h
def A00{base i m o rest s K}(hm:m.getD 0 false=false)(h:MW Γ P base m (o::rest) i s K):SZ Γ P o.dst o.op (base+i) s λs'=>MW Γ P base (m.drop 1) rest (i+1) s' K:=by
 cases m with
 |nil=>simpa[MW]using h
 | cons b m=>
   simp at hm;subst hm;simpa[MW]using h
def sO(hG:U2 P Γ){ops:List Oper}{base:Nat}{m:List Bool}{k:List AV->Prop}:∀(rest:List Oper) (mr:List Bool) (i:Nat) (t:List AV),rest=ops.drop i->mr=m.drop i->PQ Γ P base mr rest i t k->
    ∃ (T:Nat->List AV) (res:Nat->AV),T i=t/\k (T ops.length)/\(∀j o,i<=j->ops[j]? =some o->m.getD j false=true->T (j+1)=EX (T j) o.dst (res j)/\∃d,NN P o (FK (T j)) DD (base+j) (res j) d/\(lays o.op=false->d=none))/\
      (∀j,i<=j->j<ops.length->m.getD j false=false->T (j+1)=T j):=by
  intro rest;induction rest with
  | nil=>
    intro mr i t hr hm h;have hlen:ops.length<=i:=by
      have:=congrArg List.length hr;simp at this;omega
    refine⟨λ_=>t,λ_=> .j,rfl,?_,?_,λj h1 h2=>A0⟩
    · cases mr with
      |nil=>simpa[PQ]using h
      |cons b mr=>cases b<;>simpa[PQ]using h
    intro j o h1 h2;have:=(AL.1 h2).1;omega
  | cons o rest ih=>
    intro mr i t hr hm h;have hi:i<ops.length:=by
      apply AN;intro hn;rw[HD A0]at hr;cases hr
    rw[DL hi]at hr;obtain⟨ho,hr'⟩:=List.cons.inj hr;have o9:ops[i]? =some o:=by rw[A9 hi,ho]
    by_cases xH:m.getD i false=true
    · have iI:i<m.length:=by
        apply AN;intro hn;rw[A5,B8 A0]at xH;simp at xH
      rw[DL iI]at hm;have hb:m[i]=true:=by simpa[iI]using xH
      rw[hb]at hm;subst hm;simp only[PQ]at h;obtain⟨r,d,h1,h2,h3⟩:=qN hG h;obtain⟨T,res,g1,g2,g3,g4⟩:=ih _ (i+1) _ hr' rfl h1;refine⟨λj=>if j=i then t else T j,λj=>if j=i then r else res j,B5,by simp only;rw[if_neg A0];exact g2,?_,?_⟩
      · intro j o' hj Zf T1;by_cases e:j=i
        · subst e;rw[o9]at Zf;cases Zf;simp only[if_true];rw[if_neg A0];exact⟨g1,d,h2,h3⟩
        simp only[e,if_false];rw[if_neg A0];exact g3 j o' A0 Zf T1
      intro j hj Em T1;by_cases e:j=i
      · subst e;rw[xH]at T1;cases T1
      simp only[e,if_false];rw[if_neg A0];exact g4 j A0 Em T1
    have hmf:m.getD i false=false:=by simpa using xH
    have h':∃mr',mr'=m.drop (i+1)/\PQ Γ P base mr' rest (i+1) t k:=by
      by_cases iI:i<m.length
      · rw[DL iI]at hm;have hb:m[i]=false:=by simpa[iI]using hmf
        rw[hb]at hm;subst hm;simp only[PQ]at h;exact⟨_,rfl,h⟩
      rw[HD A0]at hm;subst hm;simp only[PQ]at h;refine⟨[],by rw[HD A0],?_⟩;cases rest<;>simpa[PQ]using h
    obtain⟨mr',e1,h'⟩:=h';obtain⟨T,res,g1,g2,g3,g4⟩:=ih mr' (i+1) t hr' e1 h';refine⟨λj=>if j=i then t else T j,res,B5,by simp only;rw[if_neg A0];exact g2,?_,?_⟩
    · intro j o' hj Zf T1;by_cases e:j=i
      · subst e;rw[hmf]at T1;cases T1
      simp only[e,if_false];rw[if_neg A0];exact g3 j o' A0 Zf T1
    intro j hj Em T1;by_cases e:j=i
    · subst e;simp only[if_true];rw[if_neg A0];exact g1
    simp only[e,if_false];rw[if_neg A0];exact g4 j A0 Em T1
section
variable{cX:Ctx}
def sP(hG:U2 P Γ){o s t' L a w id K'}(h:SZ Γ P o.dst o.op id s K')(he:∀x∈o.op.operands,FK s.t x=FK t' x)(c:Cn cX ⟨t',s.H,s.nx⟩ L a w)(GF:L id=none)(cZ:id<s.nx)(PN:cX.nx0<=id){K Q}(hK:∀r H' DI L' a' w',K' ⟨EX s.t o.dst r,H',DI⟩->s.nx<=DI->(∀i,i≠id->i<s.nx->L' i=L i)->Cn cX ⟨EX t' o.dst r,H',DI⟩ L' a' w'->K a' w'):Yh cX.rd P o a w K Q:=by
 have hH:s.H id=none:=by
  cases hh:s.H id with
  |none=>rfl
  |some cs=>obtain⟨l,h1,_⟩:=c.sr.node id cs hh;rw[GF]at h1;cases h1
 have Ke:∀{k:AV->HP->Prop},Us P o (FK s.t) s.H id k->(∀r H',k r H'->K' ⟨EX s.t o.dst r,H',s.nx⟩)->Yh cX.rd P o a w K Q:=by
  intro k hk Oh;have Y8:=hk.ev he;refine(Y8 L cX.Av w a.eval c.sr ⟨_,c.fr⟩ GF hH (λx _=>c.ev x)).wp ?_;rintro u w' ⟨r,H',L',h1,h2,h3,h4,h5⟩;obtain⟨q1,q2,q3⟩:=SY (a:=a) c.sz (λk y hk=>(c.sl k y hk).step h4) o.dst h5;refine hK r H' s.nx L' _ w' (Oh r H' h1) (A1 _) (λi hi _=>h2 i hi) ⟨dfp q1 (c.df.step c.sr h4),q2,q3,h3,?_,c.nx,?_,c.st.trans h4⟩
  · intro i hi;rw[h2 i (by simp only at hi;omega)];exact c.fr i hi
  intro i hi;rw[h2 i A0];exact c.lo i hi
 have s8:∀(f:FuncId) (xs:List AV) (us:Array Value),AC P f s.nx s.H xs (λDI H' r=>K' ⟨EX s.t o.dst r,H',DI⟩)->S8 L w (MM L s.H cX.Av) xs us->(execOp a.eval o).run P w= .ok (.enter f us) w->Yh cX.rd P o a w K Q:=by
  rintro f xs us ⟨iK,O7⟩ ha h1;have h2:=O7 L cX.Av w _ c.sr c.fr ha;have h3:QV P o a.eval w λu w'=>∃r L' DI H',K' ⟨EX s.t o.dst r,H',DI⟩/\s.nx<=DI/\(∀i,DI<=i->L' i=none)/\(∀i,i<s.nx->L' i=L i)/\SR L' H' cX.Av w'/\Step L s.H w L' H' w'/\R L' w' (MM L' H' cX.Av) r u:=by
    unfold QV;rw[h1];exact h2.mono λe w' ⟨u,r,L',DI,H',g1,g2,g3,g4,g5,g6,g7,g8⟩=>⟨u,g1,r,L',DI,H',g2,g3,g4,g5,g6,g7,g8⟩
  refine h3.wp ?_;rintro u w' ⟨r,L',DI,H',g1,g2,g3,g4,g5,g6,g7⟩;obtain⟨q1,q2,q3⟩:=SY (a:=a) c.sz (λk y hk=>(c.sl k y hk).step g6) o.dst g7;have h6:=c.nx;refine hK r H' DI L' _ w' g1 g2 (λi _ hi=>g4 i hi) ⟨dfp q1 (c.df.step c.sr g6),q2,q3,g5,g3,by simp only at h6 ⊢;omega,?_,c.st.trans g6⟩;intro i hi;simp only at h6;rw[g4 i A0];exact c.lo i hi
 unfold SZ at h;split at h
 ·rename_i op ty x y ty2 ho;exact Ke (Ek hG ho h) (by rintro r H' ⟨hk,rfl⟩;exact hk)
 ·rename_i ty x y ho;exact Ke (Np hG ho h) (λr H' hk=>hk)
 ·rename_i args NJ ho;split at h
  · rename_i x y t1 t2 ha ht;have dY:args=#[x,y]:=by apply FL;simpa using ha
    subst dY;exact Ke (Nr hG ho (by rw[<-CE,ht];rfl) (by rw[<-CE,ht];rfl) h) (λr H' hk=>hk)
  exact h.elim
 ·rename_i f args NJ ho;have h1:=lJ h.1 ho (show a.eval (.func f)= .func (.func f) #[] #[]from rfl) w;have ACX:args.toList.map (FK s.t)=args.toList.map (FK t'):=FN λx hx=>he x (by rw[ho];simp only[Op.operands,Call.operands,JB];right;simpa using hx)
  rw[ACX]at h;exact s8 f _ _ h (zN ho (λx _=>c.ev x)) h1
 ·rename_i n args NJ ho;have ACX:args.toList.map (FK s.t)=args.toList.map (FK t'):=FN λx hx=>he x (by rw[ho];simp only[Op.operands,Call.operands,JB];right;simpa using hx)
  have hn:FK s.t (.tmp n)=FK t' (.tmp n):=he _ (by rw[ho];simp[Op.operands,Call.operands]);rw[ACX,hn]at h;unfold fnV at h;split at h
  · rename_i f cs hv;have hx:=c.ev (.tmp n);rw[hv]at hx;obtain⟨us,hf,Xh⟩:=hx.Eh;have h1:=fW h.1 ho hf w;exact s8 f _ _ h ((s6 ho (λx _=>c.ev x)).append Xh) h1
  exact h.elim
 ·rename_i ty x i ho;exact Ke (Nt hG ho h) (by rintro r H' ⟨hk,rfl⟩;exact hk)
 ·rename_i sty dty x ho;exact Ke (Nw hG ho h) (by rintro r H' ⟨hk,rfl⟩;exact hk)
 ·rename_i args NJ ho;split at h
  · rename_i x y t1 ts ha ht;have dY:args=#[x,y]:=by apply FL;simpa using ha
    subst dY;exact Ke (Nx hG ho (by rw[<-CE,ht];rfl) h) (λr H' hk=>hk)
  exact h.elim
 obtain⟨r,d,h1,h2⟩:=Zc hG h;exact Ke (h2 s.H (λ_ _ h=>h)) (by rintro r' H' ⟨rfl,rfl⟩;exact h1)
def Oi{o t' H nx L a w id k}(h:Us P o (FK t') H id k)(c:Cn cX ⟨t',H,nx⟩ L a w)(GF:L id=none)(cZ:id<nx)(PN:cX.nx0<=id){K Q}(hK:∀r H' L' a' w',k r H'->(∀i,i≠id->L' i=L i)->Cn cX ⟨EX t' o.dst r,H',nx⟩ L' a' w'->K a' w'):Yh cX.rd P o a w K Q:=by
 have hH:H id=none:=by
  cases hh:H id with
  |none=>rfl
  |some cs=>obtain⟨l,h1,_⟩:=c.sr.node id cs hh;rw[GF]at h1;cases h1
 refine(h L cX.Av w a.eval c.sr ⟨_,c.fr⟩ GF hH (λx _=>c.ev x)).wp ?_;rintro u w' ⟨r,H',L',h1,h2,h3,h4,h5⟩;obtain⟨q1,q2,q3⟩:=SY (a:=a) c.sz (λk y hk=>(c.sl k y hk).step h4) o.dst h5;refine hK r H' L' _ w' h1 h2 ⟨dfp q1 (c.df.step c.sr h4),q2,q3,h3,?_,c.nx,?_,c.st.trans h4⟩
 ·intro i hi;rw[h2 i (by simp only at hi;omega)];exact c.fr i hi
 intro i hi;rw[h2 i A0];exact c.lo i hi
def UQ{t d x}:(EX t d x).length=t.length:=by
 cases d<;>simp[EX]
def YH{t d x u}(h:d≠some u):(EX t d x)[u]? =t[u]? :=by
 cases d with
 |none=>rfl
 |some d=>simp only[EX];exact LZ (λe=>h (by rw[e]))
def qP{t t' d x u}(h:t.length=t'.length)(he:d=some u\/t[u]? =t'[u]?):(EX t d x)[u]? =(EX t' d x)[u]? :=by
 by_cases e:d=some u
 ·subst e;simp only[EX];rw[CL,CL,if_pos rfl,if_pos rfl,h]
 rw[YH e,YH e];exact he.resolve_left e
def gB{ops:List Oper}{m:List Bool}{base:Nat}{s:St}{K:St->Prop}:∀(d q:Nat),q+d<=ops.length->(∀i,q<=i->i<q+d->m.getD i false=true)->MW Γ P base (m.drop q) (ops.drop q) q s K->MW Γ P base (m.drop (q+d)) (ops.drop (q+d)) (q+d) s K:=by
 intro d;induction d with
 |zero=>intro q _ _ h;exact h
 | succ d ih=>
   intro q hq hm h;have Xl:q<ops.length:=A0;rw[DL Xl]at h;have h1:=Zy (by have:=hm q (A1 _) A0;simpa[A5,CK]using this) h;rw[KR]at h1;have:=ih (q+1) A0 (λi h1 h2=>hm i A0 A0) h1;rwa [show q+1+d=q+(d+1) by omega]at this
def Ev{ops:List Oper}{BP:Array Bool}(HX:∀j o,ops[j]? =some o->∀e∈o.after.toList,Region.binds .any e=true->e.on<j)(TH:BP.size=ops.length):∀i,i<ops.length->BP.getD i true=false->Region.ready .any ops.toArray BP≠ []:=by
 intro i;induction i using Nat.strongRecOn with
 |_ i ih=>
  intro hi hn;by_cases R8:∀j,j<i->BP.getD j true=true
  ·intro he;have:=aB HX hi TH R8 hn;rw[he]at this;cases this
  obtain⟨j,hj⟩:=Classical.not_forall.1 R8;obtain⟨h1,h2⟩:=Classical.not_imp.1 hj;exact ih j h1 A0 (by simpa using h2)
def Oj{ops:List Oper}{m:List Bool}{T:Nat->List AV}{res:Nat->AV}(hT:∀(j:Nat) (o:Oper),ops[j]? =some o->m.getD j false=true->T (j+1)=EX (T j) o.dst (res j))(hS:∀j,j<ops.length->m.getD j false=false->T (j+1)=T j):∀j,j<=ops.length->(T j).length=(T 0).length:=by
 intro j;induction j with
 |zero=>intro _;rfl
 | succ j ih=>
   intro hj;have Em:j<ops.length:=A0;cases hm:m.getD j false with
   |true=>rw[hT j _ (A9 Em) hm,UQ];exact ih A0
   |false=>rw[hS j Em hm];exact ih A0
def zU{ops:List Oper}{m:List Bool}{T:Nat->List AV}{res:Nat->AV}(hT:∀(j:Nat) (o:Oper),ops[j]? =some o->m.getD j false=true->T (j+1)=EX (T j) o.dst (res j))(hS:∀j,j<ops.length->m.getD j false=false->T (j+1)=T j):∀(u i d:Nat),i+d<=ops.length->(∀g o,i<=g->g<i+d->ops[g]? =some o->m.getD g false=true->o.dst≠some u)->(T (i+d))[u]? =(T i)[u]? :=by
 intro u i d;induction d with
 |zero=>intro _ _;rfl
 | succ d ih=>
   intro hl hk;have h1:=ih A0 (λg o a b=>hk g o a A0);have Em:i+d<ops.length:=A0;have ho:=A9 Em;rw[<-DS];cases hm:m.getD (i+d) false with
   |true=>rw[hT _ _ ho hm,YH (hk _ _ A0 A0 ho hm)];exact h1
   |false=>rw[hS _ Em hm];exact h1
def A5Q(hG:U2 P Γ){ops:List Oper}{m:List Bool}(hd:AIY ops m){base:Nat}{T:Nat->List AV}{res:Nat->AV}{Q:Exit->Act->World->Prop}{K':St->Prop}
    (hT:∀j o,ops[j]? =some o->m.getD j false=true->T (j+1)=EX (T j) o.dst (res j)/\∃d,NN P o (FK (T j)) DD (base+j) (res j) d/\(lays o.op=false->d=none))
    (hS:∀j,j<ops.length->m.getD j false=false->T (j+1)=T j) (PN:cX.nx0<=base)
    (hQ:∀s' L' a' w',K' s'->Cn cX s' L' a' w'->Q .normal a' w'):
    ∀ (fuel q:Nat) (BP:Array Bool) (s:St) (t':List AV) (L:LM) (a:Act) (w:World),El ops.length BP<=fuel->BP.size=ops.length->xE ops BP->q<=ops.length->
      (∀i,i<q->m.getD i false=false->BP.getD i true=true)->(∀i,q<=i->i<ops.length->m.getD i false=false->BP.getD i true=false)->
      MW Γ P base (m.drop q) (ops.drop q) q s K'->
      (∀u,(∀(j:Nat) (o:Oper),ops[j]? =some o->m.getD j false=false->BP.getD j true=true->o.dst≠some u)->s.t[u]? =(T ops.length)[u]?)->s.t.length=(T ops.length).length->t'.length=s.t.length->
      (∀u,(∀(j:Nat) (o:Oper),ops[j]? =some o->m.getD j false=true->BP.getD j true=false->o.dst≠some u)->t'[u]? =s.t[u]?)->
      Cn cX ⟨t',s.H,s.nx⟩ L a w->(∀i,i<ops.length->BP.getD i true=false->L (base+i)=none)->base+ops.length<=s.nx->
      wpA cX.rd P .any ops.toArray Q fuel BP a w:=by
  have hT':=λj o ho hm=>(hT j o ho hm).1
  have A01:=Oj hT' hS;have Ew:=zU hT' hS;have evT:∀{o:Oper} {t1 t2:List AV},(∀u∈Io o,t1[u]? =t2[u]?)->∀x∈o.op.operands,FK t1 x=FK t2 x:=by
    intro o t1 t2 h x hx;cases x with
    | tmp u=>
      have:=h u (by unfold Io;exact IG.2 ⟨.tmp u,by simpa using hx,rfl⟩);simp only[FK,A5,this]
    |_=>simp[FK]
  intro fuel;induction fuel with
  | zero=>
    intro q BP s t' L a w hf TH hs hq dB XA h ha UC WV fN hc GM Xi;have R8:∀i,i<ops.length->BP.getD i true=true:=by
      intro i hi;cases hb:BP.getD i true with
      |true=>rfl
      |false=>have:=iV hb hi;omega
    have h1:=gB (ops.length-q) q A0 (λi g1 g2=>by
      cases hb:m.getD i false with
      |true=>rfl
      |false=>have:=XA i g1 A0 hb;rw[R8 i A0]at this;cases this) h
    rw[show q+(ops.length-q)=ops.length by omega,JD]at h1;have ht:t'=s.t:=C7 λu=>fN u λj o ho _ hb=>by
      rw[R8 j (AL.1 ho).1]at hb;cases hb
    subst ht;refine⟨?_,hQ _ _ _ _ (yF h1) hc⟩;rw[F1];intro i OQ;obtain⟨h1,h2,_⟩:=MV.1 OQ;rw[R8 i h1]at h2;cases h2
  | succ fuel ih=>
    intro q BP s t' L a w hf TH hs hq dB XA h ha UC WV fN hc GM Xi;refine⟨λh0=>?_,?_⟩
    · have R8:∀i,i<ops.length->BP.getD i true=true:=by
        intro i hi;cases hb:BP.getD i true with
        |true=>rfl
        |false=>exact absurd h0 (Ev hd.lt TH i hi hb)
      have h1:=gB (ops.length-q) q A0 (λi g1 g2=>by
        cases hb:m.getD i false with
        |true=>rfl
        |false=>have:=XA i g1 A0 hb;rw[R8 i A0]at this;cases this) h
      rw[show q+(ops.length-q)=ops.length by omega,JD]at h1;have ht:t'=s.t:=C7 λu=>fN u λj o ho _ hb=>by
        rw[R8 j (AL.1 ho).1]at hb;cases hb
      subst ht;exact hQ _ _ _ _ (yF h1) hc
    intro i OQ;obtain⟨h1,h2,_⟩:=MV.1 OQ;have ho:ops[i]? =some ops[i]:=A9 h1;have hgd:=hd.g i _ ho;have U3:∀k,(BP.setIfInBounds i true).getD k true=false↔k≠i/\BP.getD k true=false:=by
      intro k;rw[L4 h2];by_cases e:k=i
      · simp[e]
      simp[e]
    have hun:=iV h2 h1;unfold wpO;simp only[CO,ho];rw[if_pos (by simp[Region.wanted,hgd])];refine .inl ?_;cases hm:m.getD i false with
    | true=>
      obtain⟨f1,⟨d,f2,f3⟩,f4⟩:=hd.fl i _ ho hm;obtain⟨g1,dd,g2,g3⟩:=hT i _ ho hm;have g3:=g3 f1;subst g3;have Xk:∀u∈Io ops[i],(T i)[u]? =t'[u]? :=by
        intro u hu;have hw:=f4 u hu;have e1:t'[u]? =s.t[u]? :=fN u λj o hj T1 gC he=>by
          rcases hw j o hj he with ⟨_,_,Oc⟩|⟨hmf,_⟩
          · rw[JH hs OQ Oc]at gC;cases gC
          rw[hmf]at T1;cases T1
        have e2:s.t[u]? =(T ops.length)[u]? :=ha u λj o hj T1 gC he=>by
          rcases hw j o hj he with ⟨k1,_,_⟩|⟨_,Oc⟩
          · rw[k1]at T1;cases T1
          rw[hs i j Oc gC]at h2;cases h2
        have e3:=Ew u i (ops.length-i) A0 (λg o k1 k2 hg hmg he=>by
          rcases hw g o hg he with ⟨_,k3,_⟩|⟨k3,_⟩
          · omega
          rw[hmg]at k3;cases k3)
        rw[show i+(ops.length-i)=ops.length by omega]at e3;rw[e1,e2,e3]
      have hop:=(g2 s.H (λ_ _ h=>by cases h)).ev (evT Xk);refine Oi hop hc (GM i h1 h2) A0 A0 ?_;rintro r H' L' a' w' ⟨rfl,rfl⟩ hL VJ;refine ih q _ s (EX t' ops[i].dst (res i)) L' a' w' A0 (by simpa using TH) (hs.set OQ) hq (λk hk aE=>?_) (λk k1 k2 aE=>?_) h (λu hu=>ha u λj o hj T1 gC=>hu j o hj T1 (by rw[L4 h2];split<;>first|rfl|exact gC)) UC (by rw[UQ];exact WV) (λu hu=>?_) VJ (λk hk Ob=>?_) Xi
      · rw[L4 h2];split
        · rfl
        exact dB k hk aE
      · exact(U3 k).2 ⟨λe=>(by rw[e,hm]at aE;cases aE),XA k k1 k2 aE⟩
      · by_cases e:u=d
        · subst e;have e2:s.t[u]? =(T ops.length)[u]? :=ha u λj o hj T1 _ he=>f3 j o hj (λe=>by rw[e,hm]at T1;cases T1) he
          have e3:=Ew u (i+1) (ops.length-(i+1)) A0 (λg o k1 k2 hg hmg he=>f3 g o hg A0 he);rw[show i+1+(ops.length-(i+1))=ops.length by omega]at e3;rw[e2,e3,g1,f2];exact qP (by rw[WV,UC,A01 _ (A1 _),A01 i A0]) (.inl rfl)
        rw[YH (by rw[f2];intro e2;cases e2;exact e rfl)];refine fN u λj o hj T1 gC he=>?_
        by_cases ej:j=i
        · subst ej;rw[ho]at hj;cases hj;rw[f2]at he;cases he;exact e rfl
        exact hu j o hj T1 ((U3 j).2 ⟨ej,gC⟩) he
      obtain⟨k1,k2⟩:=(U3 k).1 Ob;rw[hL _ A0];exact GM k hk k2
    | false=>
      obtain⟨f1,f2⟩:=hd.sp i _ ho hm;have hqi:q<=i:=by
        apply AN;intro hn;rw[dB i A0 hm]at h2;cases h2
      have Ol:∀k,q<=k->k<q+(i-q)->m.getD k false=true:=by
        intro k k1 k2;cases hb:m.getD k false with
        |true=>rfl
        | false=>
          have:=JH hs OQ (f1 k A0 hb);rw[XA k k1 A0 hb]at this;cases this
      have h3:=gB (i-q) q A0 Ol h;rw[show q+(i-q)=i by omega,DL h1]at h3;have h4:=A00 (by simpa[A5,CK]using hm) h3;rw[KR]at h4;have Xk:∀u∈Io ops[i],s.t[u]? =t'[u]? :=by
        intro u hu;exact(fN u λj o hj T1 gC he=>by
          rw[JH hs OQ (f2 u hu j o hj T1 he)]at gC;cases gC).symm
      refine sP hG h4 (evT Xk) hc (GM i h1 h2) A0 A0 ?_;intro r H' DI L' a' w' hk AGY hL VJ;refine ih (i+1) _ ⟨EX s.t ops[i].dst r,H',DI⟩ (EX t' ops[i].dst r) L' a' w' A0 (by simpa using TH) (hs.set OQ) A0 (λk hk aE=>?_) (λk k1 k2 aE=>?_) (by simpa[FP]using hk) (λu hu=>?_) (by simp only[UQ];exact UC) (by simp only[UQ];exact WV) (λu hu=>?_) VJ (λk hk Ob=>?_) (by simp only;omega)
      · rw[L4 h2];split
        · rfl
        rename_i e;rcases BL k q with hkq|hkq
        · exact dB k hkq aE
        rw[Ol k hkq A0]at aE;cases aE
      · exact(U3 k).2 ⟨A0,XA k A0 k2 aE⟩
      · simp only
        rw[YH (hu i _ ho hm (by rw[L4 h2,if_pos rfl]))];exact ha u λj o hj T1 gC=>hu j o hj T1 (by rw[L4 h2];split<;>first|rfl|exact gC)
      · simp only
        refine qP WV (.inr (fN u λj o hj T1 gC he=>?_));exact hu j o hj T1 ((U3 j).2 ⟨λe=>(by rw[e,hm]at T1;cases T1),gC⟩) he
      obtain⟨k1,k2⟩:=(U3 k).1 Ob;rw[hL _ A0 A0];exact GM k hk k2
end
def UR{cX}(hG:U2 P Γ)(hmx:P.follows .mixedOrders=true){n ops s K}(m)(Ny:ACW ops m=true)(h:PQ Γ P s.nx m ops 0 s.t λt=>MW Γ P s.nx m ops 0 ⟨t,s.H,s.nx+ops.length⟩ (K .normal)):AW cX P (.region n ops.toArray true) s K:=by
 intro L a w Q hc hQ;have hd:=Kd Ny;refine fL hmx ?_;obtain⟨T,res,h1,h2,h3,h4⟩:=sO hG (ops:=ops) (m:=m) ops m 0 s.t B5 B5 h;have hdr:Cn cX ⟨s.t,s.H,s.nx+ops.length⟩ L a {w with drawn:=w.drawn+1}:=
  ⟨hc.df.same rfl,hc.sz,λk x hk=>(hc.sl k x hk).drew,hc.sr.drew,λi hi=>hc.fr i (by simp only at hi;omega),by have:=hc.nx;simp only;omega,hc.lo,hc.st.trans (Step.drew _ _ _)⟩
 have:=A5Q (Q:=Q) hG hd (base:=s.nx) (T:=T) (res:=res) (λj o ho hm=>h3 j o (AE _) ho hm) (λj hj hm=>h4 j (AE _) hj hm) hc.nx (λs' L' a' w' hk VJ=>hQ _ _ _ _ _ hk VJ)
  ops.length 0 (Array.replicate ops.length false) ⟨T ops.length,s.H,s.nx+ops.length⟩ s.t L a {w with drawn:=w.drawn+1} (by
   unfold El;exact CH (F6 _ _) B5) B5 (by
   intro i j hw hj;have:=hw.len;simp[BC,this]at hj) (AE _) (λi hi=>A0) (λi _ hi _=>by
   simp[BC,hi]) (by simpa using h2) (λu _=>rfl) rfl ?_ ?_ hdr (λi hi _=>hc.fr _ A0) (by simp only;omega)
 ·simpa using this
 ·simp only
  rw[Oj (λj o ho hm=>(h3 j o (AE _) ho hm).1) (λj hj hm=>h4 j (AE _) hj hm) _ (A1 _),h1]
 intro u hu;have:=zU (λj o ho hm=>(h3 j o (AE _) ho hm).1) (λj hj hm=>h4 j (AE _) hj hm) u 0 ops.length A0 (λg o _ hg ho hm=>hu g o ho hm (by
  have:=(AL.1 ho).1;simp[BC,this]))
 rw[BS]at this;simp only
 rw[this,h1]
@[congr] theorem AIZ {base i m rest t t' k}(h:t=t'):PQ Γ P base m rest i t k=PQ Γ P base m rest i t' k:=by rw[h]
@[congr] theorem AJ0 {base i m rest s s' K}(h:s=s'):MW Γ P base m rest i s K=MW Γ P base m rest i s' K:=by rw[h]
def Om{base i:Nat}{m:List Bool}{rest:List Oper}{t:List AV}{k:List AV->Prop}{dst:Option Nat}{op:Op}{ty:TypeId}{pos:String}{after:Array Edge}{g:Option (Nat×Bool)}:
    PQ Γ P base (true::m) (⟨dst,op,ty,pos,after,g⟩::rest) i t k=eC Γ P op t DD (base+i) λr _=>PQ Γ P base m rest (i+1) (EX t dst r) k:=by rw[PQ]
def On{base i m o rest t k}:PQ Γ P base (false::m) (o::rest) i t k=PQ Γ P base m rest (i+1) t k:=by rw[PQ]
def Oo{base i rest t k}:PQ Γ P base [] rest i t k=k t:=by cases rest<;>rw[PQ]
def AJ1{base i m o rest s K}:MW Γ P base (true::m) (o::rest) i s K=MW Γ P base m rest (i+1) s K:=by rw[MW]
def AJ2{base i:Nat}{m:List Bool}{rest:List Oper}{s:St}{K:St->Prop}{dst:Option Nat}{op:Op}{ty:TypeId}{pos:String}{after:Array Edge}{g:Option (Nat×Bool)}:
    MW Γ P base (false::m) (⟨dst,op,ty,pos,after,g⟩::rest) i s K=SZ Γ P dst op (base+i) s λs'=>MW Γ P base m rest (i+1) s' K:=by rw[MW]
def AJ3{base i s K}:MW Γ P base [] [] i s K=K s:=by rw[MW]
end
attribute [go_sem] Om On Oo AJ1 AJ2 AJ3
end
section
def gE(nx H):AC prog 191 nx H [.nl] (λ_ H' _=>H'=H):=by
 refine CF AY func191 rfl AP ntmps191 results191 (λGM cX=>?_)
 refine CT ?_;refine AA<|Es ?_;refine A6 λN1 CW=>CT ?_;refine MG rfl (λh=>absurd h (by first|(simp;done)|(simp only[decide_eq_true_eq];omega))) (λ_=>?_)
 apply AO;simp only[wW,IY,if_true];exact⟨_,λ_ _ h=>h,rfl⟩
def gF(a):DZ prog 196 [.i .i64 a] (.b false):=by
 refine BI AY func196 rfl AP ntmps196 results196 (.b _) (λnx cX=>?_)
 refine CT ?_;refine CT ?_;refine BQ ?_;simp
def iY(a b):DZ prog 234 [.i .i64 a,.i .i64 b] (.b (decide (a<b))):=by
 refine BI AY func234 rfl AP ntmps234 results234 (.b _) (λnx cX=>?_)
 refine CT ?_;refine UN (gF a) ?_;apply DQ;simp-dsimp-implicitDefEqProofs(disch:=omega)only[go_sem];skip
def zV(n)(h0:0<=n)(hn:n<256)(nx H):AC prog 208 nx H [.i .u64 n] (λ_ H' r=>H'=H/\∃v:Int,r= .i .i64 v):=by
 refine CF AY func208 rfl AP ntmps208 results208 (λGM cX=>?_)
 refine CT ?_;refine A6 λN1 CW=>CT ?_;refine AK ?_ ?_<;>intro h1
 ·exact absurd h1 A0
 apply AF;apply CW;refine A6 λN2 DN=>CT ?_;refine AK ?_ ?_<;>intro h2
 ·exact absurd h2 A0
 apply AF;apply DN;refine A6 λN3 DO=>CT ?_;refine AK ?_ ?_<;>intro h3
 ·exact absurd h3 A0
 have hw:IntKind.wrap .u8 n=n:=by
  simp[IntKind.wrap,IntKind.bits,IntKind.signed];omega
 apply AF;apply DO;refine sQ λN hN=>?_;refine eK hw ?_;refine⟨Int.lt_of_lt_of_le hn (Int.le_of_eq AP),?_⟩
 apply hN;refine BQ ?_;exact⟨_,λ_ _ h=>h,rfl,_,rfl⟩
def sR(n)(h0:0<=n)(hn:n<256)(nx H):AC prog 153 nx H [.i .u64 n] (λ_ H' r=>H'=H/\∃v:Int,r= .i .i64 v):=by
 refine CF AY func153 rfl AP ntmps153 results153 (λGM cX=>?_)
 refine CT ?_;refine A6 λN1 CW=>DJ rfl ?_;apply AF;apply CW;refine sQ λN hN=>?_;refine BH ?_;refine(zV n h0 hn _ _).CD ?_
 rintro m1 H1 r1 SF ⟨rfl,v,rfl⟩
 refine BH ?_
 apply hN;refine BQ ?_;exact⟨_,λ_ _ h=>h,rfl,_,rfl⟩
end
section
section
variable{P:Program}{Γ:KT}
inductive Tr
 |nil
 |br (j:Nat) (sub next:Tr)
def Tr.isNil:Tr->Bool
 |.nil=>true
 |.br _ _ _=>false
def Vi:Tr->Nat->Bool
 |.nil,_=>false
 |.br j _ next,i=>j==i||Vi next i
def Oq(ops:List Oper)(t:Tr)(rem:List Nat):Bool:=(rem.all λi=>(rem.any λk=>k !=i && wt ops (cls ops []) k i)||Vi t i)&&(!rem.isEmpty||t.isNil)
def cG(ops:List Oper):Tr->List Nat->Bool
 |.nil,_=>true
 |.br j sub next,rem=>Oq ops sub (rem.erase j)&& cG ops sub (rem.erase j)&& cG ops next rem
def aF(ops:List Oper)(t:Tr)(rem:List Nat):Bool:=Oq ops t rem && cG ops t rem
def yG{ops t}(h:aF ops t []=true):t= .nil:=by
 cases t with
 |nil=>rfl
 |br j sub next=>simp[aF,Oq,Tr.isNil]at h
def A02{ops t rem}(h:aF ops t rem=true){i}(hi:i∈rem)(hn:(rem.any λk=>k !=i && wt ops (cls ops []) k i)=false):Vi t i=true:=by
 simp only[aF,Oq,CU]at h;have:=BM.1 h.1.1 i hi;rw[hn]at this;simpa using this
def A03{ops t rem}(h:aF ops t rem=true):cG ops t rem=true:=by
 simp only[aF,CU]at h;exact h.2
def lQ:List Oper->Nat->(Oper->Prop)->Prop
 |[],_,_=>False
 |o::_,0,k=>k o
 |_::l,n+1,k=>lQ l n k
def A04:∀{ops:List Oper} {i:Nat} {o:Oper} {k:Oper->Prop},ops[i]? =some o->lQ ops i k->k o:=by
 intro ops;induction ops with
 |nil=>intro i o k h;simp at h
 | cons a l ih=>
   intro i o k h hk;cases i with
   |zero=>simp at h;subst h;exact hk
   |succ i=>exact ih (by simpa using h) hk
def PB(Γ:KT)(P:Program)(base:Nat)(ops:List Oper):Tr->St->(St->Prop)->Prop
 |.nil,s,K=>K s
 |.br j sub .nil,s,K=>lQ ops j λo=>SZ Γ P o.dst o.op (base+j) s λs'=>PB Γ P base ops sub s' K
 |.br j sub (.br k a b),s,K=>(lQ ops j λo=>SZ Γ P o.dst o.op (base+j) s λs'=>PB Γ P base ops sub s' K)/\PB Γ P base ops (.br k a b) s K
def ACY{ops base i rem s K}:∀{t:Tr},Vi t i=true->cG ops t rem=true->PB Γ P base ops t s K->
    ∃sub,aF ops sub (rem.erase i)=true/\lQ ops i λo=>SZ Γ P o.dst o.op (base+i) s λs'=>PB Γ P base ops sub s' K:=by
  intro t;induction t with
  |nil=>intro h;cases h
  | br j sub next ih1 ih2=>
    intro h1 h2 h3;simp only[cG,CU]at h2;have h4:lQ ops j λo=>SZ Γ P o.dst o.op (base+j) s λs'=>PB Γ P base ops sub s' K:=by
      cases next with
      |nil=>simpa only[PB]using h3
      |br k a b=>simp only[PB]at h3;exact h3.1
    by_cases e:j=i
    · subst e;exact⟨sub,by simp only[aF,CU];exact h2.1,h4⟩
    have h5:Vi next i=true:=by
      simp only[Vi,HW,beq_iff_eq]at h1;exact h1.resolve_left e
    cases next with
    |nil=>cases h5
    |br k a b=>simp only[PB]at h3;exact ih2 h5 h2.2 h3.2
structure AJ4(ops:List Oper)(m:List Bool):Prop where
 lt:∀j o,ops[j]? =some o->∀e∈o.after.toList,Region.binds .any e=true->e.on<j
 g:∀(j:Nat) (o:Oper),ops[j]? =some o->o.guard=none
 fl:∀j o,ops[j]? =some o->m.getD j false=true->lays o.op=false/\(∃d,o.dst=some d/\∀i o',ops[i]? =some o'->i≠j->o'.dst≠some d)/\
  ∀u,u∈Io o->∀i o',ops[i]? =some o'->o'.dst=some u->(m.getD i false=true/\i<j/\MU ops i j)\/(m.getD i false=false/\MU ops j i)
 sp:∀j o,ops[j]? =some o->m.getD j false=false->∀u,u∈Io o->∀i o',ops[i]? =some o'->m.getD i false=true->o'.dst=some u->MU ops i j
def others(ops:List Oper)(m:List Bool):List Nat:=(List.range ops.length).filter λi=> !m.getD i false
def ACZ(ops:List Oper)(m:List Bool)(t:Tr):Bool:=
 let cl:=cls ops []
 (ops.zipIdx.all λ(o,j)=>o.after.toList.all λe=> !Region.binds .any e||e.on<j)&&
 (ops.all λo=>o.guard.isNone)&&
 (ops.zipIdx.all λ(o,j)=>
   if m.getD j false=true then
    !lays o.op &&
    (match o.dst with|some d=>ops.zipIdx.all λ(o',i)=>i==j|| !(o'.dst==some d)|none=>false)&&
    ((Io o).all λu=>ops.zipIdx.all λ(o',i)=> !(o'.dst==some u)||(if m.getD i false=true then decide (i<j)&& wt ops cl i j else wt ops cl j i))
   else
    ((Io o).all λu=>ops.zipIdx.all λ(o',i)=> !(m.getD i false && o'.dst==some u)||wt ops cl i j))&&
 aF ops t (others ops m)
def Kf{ops m t}(h:ACZ ops m t=true):AJ4 ops m/\aF ops t (others ops m)=true:=by
 unfold ACZ at h;simp only[CU]at h;obtain⟨⟨⟨h1,h2⟩,h3⟩,hto⟩:=h;refine⟨⟨?_,?_,?_,?_⟩,hto⟩
 ·intro j o ho e he hb;have:=BM.1 (QH h1 ho) e he;simpa[hb]using this
 ·intro j o ho;have:=BM.1 h2 o (D3 ho);simpa using this
 ·intro j o ho hm;have h4:=QH h3 ho;simp only[hm,if_true,CU]at h4;obtain⟨⟨h5,h6⟩,h7⟩:=h4;refine⟨by simpa using h5,?_,?_⟩
  ·cases hd:o.dst with
   |none=>rw[hd]at h6;cases h6
   | some d=>
     rw[hd]at h6;refine⟨d,rfl,λi o' hi Q3 he=>?_⟩;have:=QH h6 hi;simp[Q3,he]at this
  intro u hu i o' hi he;have h8:=QH (BM.1 h7 u hu) hi;simp only[he,beq_self_eq_true,C4,FA]at h8;split at h8
  ·rename_i xH;simp only[CU,decide_eq_true_eq]at h8;exact .inl ⟨xH,h8.1,NT h8.2⟩
  rename_i xH;exact .inr ⟨by simpa using xH,NT h8⟩
 intro j o ho hm;have h4:=QH h3 ho;simp only[hm,EG,if_false]at h4;intro u hu i o' hi xH he;have h8:=QH (BM.1 h4 u hu) hi;simp only[xH,he,beq_self_eq_true,FR,C4,FA]at h8;exact NT h8
end
section
variable{P:Program}{Γ:KT}{cX:Ctx}
def A05(hG:U2 P Γ){ops:List Oper}{m:List Bool}(hd:AJ4 ops m){base:Nat}{T:Nat->List AV}{res:Nat->AV}{Q:Exit->Act->World->Prop}{K':St->Prop}
    (hT:∀j o,ops[j]? =some o->m.getD j false=true->T (j+1)=EX (T j) o.dst (res j)/\∃d,NN P o (FK (T j)) DD (base+j) (res j) d/\(lays o.op=false->d=none))
    (hS:∀j,j<ops.length->m.getD j false=false->T (j+1)=T j) (PN:cX.nx0<=base)
    (hQ:∀s' L' a' w',K' s'->Cn cX s' L' a' w'->Q .normal a' w'):
    ∀ (fuel:Nat) (tr:Tr) (rem:List Nat) (BP:Array Bool) (s:St) (t':List AV) (L:LM) (a:Act) (w:World),El ops.length BP<=fuel->BP.size=ops.length->xE ops BP->
      (∀i,i<ops.length->m.getD i false=false->(BP.getD i true=false↔i∈rem))->rem.Nodup->(∀i∈rem,i<ops.length/\m.getD i false=false)->aF ops tr rem=true->
      PB Γ P base ops tr s K'->
      (∀u,(∀(j:Nat) (o:Oper),ops[j]? =some o->m.getD j false=false->BP.getD j true=true->o.dst≠some u)->s.t[u]? =(T ops.length)[u]?)->s.t.length=(T ops.length).length->t'.length=s.t.length->
      (∀u,(∀(j:Nat) (o:Oper),ops[j]? =some o->m.getD j false=true->BP.getD j true=false->o.dst≠some u)->t'[u]? =s.t[u]?)->
      Cn cX ⟨t',s.H,s.nx⟩ L a w->(∀i,i<ops.length->BP.getD i true=false->L (base+i)=none)->base+ops.length<=s.nx->
      wpA cX.rd P .any ops.toArray Q fuel BP a w:=by
  have hT':=λj o ho hm=>(hT j o ho hm).1
  have A01:=Oj hT' hS;have Ew:=zU hT' hS;have evT:∀{o:Oper} {t1 t2:List AV},(∀u∈Io o,t1[u]? =t2[u]?)->∀x∈o.op.operands,FK t1 x=FK t2 x:=by
    intro o t1 t2 h x hx;cases x with
    | tmp u=>
      have:=h u (by unfold Io;exact IG.2 ⟨.tmp u,by simpa using hx,rfl⟩);simp only[FK,A5,this]
    |_=>simp[FK]
  intro fuel;induction fuel with
  | zero=>
    intro tr rem BP s t' L a w hf TH hs dB XA sA fX h ha UC WV fN hc GM Xi;have R8:∀i,i<ops.length->BP.getD i true=true:=by
      intro i hi;cases hb:BP.getD i true with
      |true=>rfl
      |false=>have:=iV hb hi;omega
    obtain rfl:rem=[]:=F1.2 λi hi=>by
      have:=(dB i (sA i hi).1 (sA i hi).2).2 hi;rw[R8 i (sA i hi).1]at this;cases this
    obtain rfl:=yG fX;have ht:t'=s.t:=C7 λu=>fN u λj o ho _ hb=>by
      rw[R8 j (AL.1 ho).1]at hb;cases hb
    subst ht;refine⟨?_,hQ _ _ _ _ h hc⟩;rw[F1];intro i OQ;obtain⟨h1,h2,_⟩:=MV.1 OQ;rw[R8 i h1]at h2;cases h2
  | succ fuel ih=>
    intro tr rem BP s t' L a w hf TH hs dB XA sA fX h ha UC WV fN hc GM Xi;refine⟨λh0=>?_,?_⟩
    · have R8:∀i,i<ops.length->BP.getD i true=true:=by
        intro i hi;cases hb:BP.getD i true with
        |true=>rfl
        |false=>exact absurd h0 (Ev hd.lt TH i hi hb)
      obtain rfl:rem=[]:=F1.2 λi hi=>by
        have:=(dB i (sA i hi).1 (sA i hi).2).2 hi;rw[R8 i (sA i hi).1]at this;cases this
      obtain rfl:=yG fX;have ht:t'=s.t:=C7 λu=>fN u λj o ho _ hb=>by
        rw[R8 j (AL.1 ho).1]at hb;cases hb
      subst ht;exact hQ _ _ _ _ h hc
    intro i OQ;obtain⟨h1,h2,_⟩:=MV.1 OQ;have ho:ops[i]? =some ops[i]:=A9 h1;have hgd:=hd.g i _ ho;have U3:∀k,(BP.setIfInBounds i true).getD k true=false↔k≠i/\BP.getD k true=false:=by
      intro k;rw[L4 h2];by_cases e:k=i
      · simp[e]
      simp[e]
    have hun:=iV h2 h1;unfold wpO;simp only[CO,ho];rw[if_pos (by simp[Region.wanted,hgd])];refine .inl ?_;cases hm:m.getD i false with
    | true=>
      obtain⟨f1,⟨d,f2,f3⟩,f4⟩:=hd.fl i _ ho hm;obtain⟨g1,dd,g2,g3⟩:=hT i _ ho hm;have g3:=g3 f1;subst g3;have Xk:∀u∈Io ops[i],(T i)[u]? =t'[u]? :=by
        intro u hu;have hw:=f4 u hu;have e1:t'[u]? =s.t[u]? :=fN u λj o hj T1 gC he=>by
          rcases hw j o hj he with ⟨_,_,Oc⟩|⟨hmf,_⟩
          · rw[JH hs OQ Oc]at gC;cases gC
          rw[hmf]at T1;cases T1
        have e2:s.t[u]? =(T ops.length)[u]? :=ha u λj o hj T1 gC he=>by
          rcases hw j o hj he with ⟨k1,_,_⟩|⟨_,Oc⟩
          · rw[k1]at T1;cases T1
          rw[hs i j Oc gC]at h2;cases h2
        have e3:=Ew u i (ops.length-i) A0 (λg o k1 k2 hg hmg he=>by
          rcases hw g o hg he with ⟨_,k3,_⟩|⟨k3,_⟩
          · omega
          rw[hmg]at k3;cases k3)
        rw[show i+(ops.length-i)=ops.length by omega]at e3;rw[e1,e2,e3]
      have hop:=(g2 s.H (λ_ _ h=>by cases h)).ev (evT Xk);refine Oi hop hc (GM i h1 h2) A0 A0 ?_;rintro r H' L' a' w' ⟨rfl,rfl⟩ hL VJ;refine ih tr rem _ s (EX t' ops[i].dst (res i)) L' a' w' A0 (by simpa using TH) (hs.set OQ) (λk hk aE=>?_) XA sA fX h (λu hu=>ha u λj o hj T1 gC=>hu j o hj T1 (by rw[L4 h2];split<;>first|rfl|exact gC)) UC (by rw[UQ];exact WV) (λu hu=>?_) VJ (λk hk Ob=>?_) Xi
      · rw[<-dB k hk aE,U3 k];exact⟨λh=>h.2,λh=>⟨λe=>(by rw[e,hm]at aE;cases aE),h⟩⟩
      · by_cases e:u=d
        · subst e;have e2:s.t[u]? =(T ops.length)[u]? :=ha u λj o hj T1 _ he=>f3 j o hj (λe=>by rw[e,hm]at T1;cases T1) he
          have e3:=Ew u (i+1) (ops.length-(i+1)) A0 (λg o k1 k2 hg hmg he=>f3 g o hg A0 he);rw[show i+1+(ops.length-(i+1))=ops.length by omega]at e3;rw[e2,e3,g1,f2];exact qP (by rw[WV,UC,A01 _ (A1 _),A01 i A0]) (.inl rfl)
        rw[YH (by rw[f2];intro e2;cases e2;exact e rfl)];refine fN u λj o hj T1 gC he=>?_
        by_cases ej:j=i
        · subst ej;rw[ho]at hj;cases hj;rw[f2]at he;cases he;exact e rfl
        exact hu j o hj T1 ((U3 j).2 ⟨ej,gC⟩) he
      obtain⟨k1,k2⟩:=(U3 k).1 Ob;rw[hL _ A0];exact GM k hk k2
    | false=>
      have f2:=hd.sp i _ ho hm;have hir:i∈rem:=(dB i h1 hm).1 h2;have hnr:(rem.any λk=>k !=i && wt ops (cls ops []) k i)=false:=by
        cases hb:rem.any λk=>k !=i && wt ops (cls ops []) k i with
        |false=>rfl
        | true=>
          obtain⟨k,hk,NC⟩:=List.any_eq_true.1 hb;simp only[CU]at NC;have h5:=JH hs OQ (NT NC.2);rw[(dB k (sA k hk).1 (sA k hk).2).2 hk]at h5;cases h5
      obtain⟨sub,fS,h3⟩:=ACY (A02 fX hir hnr) (A03 fX) h;have h4:=A04 ho h3;have Xk:∀u∈Io ops[i],s.t[u]? =t'[u]? :=by
        intro u hu;exact(fN u λj o hj T1 gC he=>by
          rw[JH hs OQ (f2 u hu j o hj T1 he)]at gC;cases gC).symm
      refine sP hG h4 (evT Xk) hc (GM i h1 h2) A0 A0 ?_;intro r H' DI L' a' w' hk AGY hL VJ;refine ih sub (rem.erase i) _ ⟨EX s.t ops[i].dst r,H',DI⟩ (EX t' ops[i].dst r) L' a' w' A0 (by simpa using TH) (hs.set OQ) (λk hk aE=>?_) (XA.erase i) (λk hk=>sA k (List.mem_of_mem_erase hk)) fS hk (λu hu=>?_) (by simp only[UQ];exact UC) (by simp only[UQ];exact WV) (λu hu=>?_) VJ (λk hk Ob=>?_) (by simp only;omega)
      · rw[U3 k,dB k hk aE,XA.mem_erase_iff]
      · simp only
        rw[YH (hu i _ ho hm (by rw[L4 h2,if_pos rfl]))];exact ha u λj o hj T1 gC=>hu j o hj T1 (by rw[L4 h2];split<;>first|rfl|exact gC)
      · simp only
        refine qP WV (.inr (fN u λj o hj T1 gC he=>?_));exact hu j o hj T1 ((U3 j).2 ⟨λe=>(by rw[e,hm]at T1;cases T1),gC⟩) he
      obtain⟨k1,k2⟩:=(U3 k).1 Ob;rw[hL _ A0 A0];exact GM k hk k2
end
section
variable{P:Program}{Γ:KT}
def K5{cX}(hG:U2 P Γ)(hmx:P.follows .mixedOrders=true){n ops s K}(m tr)(Ny:ACZ ops m tr=true)(h:PQ Γ P s.nx m ops 0 s.t λt=>PB Γ P s.nx ops tr ⟨t,s.H,s.nx+ops.length⟩ (K .normal)):AW cX P (.region n ops.toArray true) s K:=by
 intro L a w Q hc hQ;obtain⟨hd,hto⟩:=Kf Ny;refine fL hmx ?_;obtain⟨T,res,h1,h2,h3,h4⟩:=sO hG (ops:=ops) (m:=m) ops m 0 s.t B5 B5 h;have hdr:Cn cX ⟨s.t,s.H,s.nx+ops.length⟩ L a {w with drawn:=w.drawn+1}:=
  ⟨hc.df.same rfl,hc.sz,λk x hk=>(hc.sl k x hk).drew,hc.sr.drew,λi hi=>hc.fr i (by simp only at hi;omega),by have:=hc.nx;simp only;omega,hc.lo,hc.st.trans (Step.drew _ _ _)⟩
 have:=A05 (Q:=Q) hG hd (base:=s.nx) (T:=T) (res:=res) (λj o ho hm=>h3 j o (AE _) ho hm) (λj hj hm=>h4 j (AE _) hj hm) hc.nx (λs' L' a' w' hk VJ=>hQ _ _ _ _ _ hk VJ)
  ops.length tr (others ops m) (Array.replicate ops.length false) ⟨T ops.length,s.H,s.nx+ops.length⟩ s.t L a {w with drawn:=w.drawn+1} (by
   unfold El;exact CH (F6 _ _) B5) B5 (by
   intro i j hw hj;have:=hw.len;simp[BC,this]at hj) (λi hi hm=>by
   rw[A5]at hm;simp[BC,hi,others,hm]) (LR.filter _) (λi hi=>by
   have:=E0.1 hi;exact⟨B3.1 this.1,by simpa using this.2⟩) hto h2 (λu _=>rfl) rfl ?_ ?_ hdr (λi hi _=>hc.fr _ A0) (by simp only;omega)
 ·simpa using this
 ·simp only
  rw[Oj (λj o ho hm=>(h3 j o (AE _) ho hm).1) (λj hj hm=>h4 j (AE _) hj hm) _ (A1 _),h1]
 intro u hu;have:=zU (λj o ho hm=>(h3 j o (AE _) ho hm).1) (λj hj hm=>h4 j (AE _) hj hm) u 0 ops.length A0 (λg o _ hg ho hm=>hu g o ho hm (by
  have:=(AL.1 ho).1;simp[BC,this]))
 rw[BS]at this;simp only
 rw[this,h1]
@[congr] theorem AN0 {base ops t s s' K}(h:s=s'):PB Γ P base ops t s K=PB Γ P base ops t s' K:=by rw[h]
def AOH{base ops s K}:PB Γ P base ops .nil s K=K s:=by rw[PB]
def AOI{base j ops sub s K}:PB Γ P base ops (.br j sub .nil) s K=lQ ops j λo=>SZ Γ P o.dst o.op (base+j) s λs'=>PB Γ P base ops sub s' K:=by rw[PB]
def AOJ{base j k ops sub a b s K}:PB Γ P base ops (.br j sub (.br k a b)) s K=((lQ ops j λo=>SZ Γ P o.dst o.op (base+j) s λs'=>PB Γ P base ops sub s' K)/\PB Γ P base ops (.br k a b) s K):=by rw[PB]
def AOK{o l n k}:lQ (o::l) (n+1) k=lQ l n k:=by rw[lQ]
def AOL{dst:Option Nat}{op:Op}{ty:TypeId}{pos:String}{after:Array Edge}{g:Option (Nat×Bool)}{l:List Oper}{id:Nat}{s:St}{K:St->Prop}:lQ (⟨dst,op,ty,pos,after,g⟩::l) 0 (λo=>SZ Γ P o.dst o.op id s K)=SZ Γ P dst op id s K:=by rw[lQ]
end
attribute [go_sem ↓] AOH AOI AOJ AOK AOL
end
section
def A06{a b}:Int.gcd b (a.tmod b)=Int.gcd a b:=by
 simp only[Int.gcd,Int.natAbs_tmod];rw[Nat.gcd_comm a.natAbs,Nat.gcd_rec b.natAbs a.natAbs,Nat.gcd_comm]
def A5R{a b:Int}(hb:b≠0):(a.tmod b).natAbs<b.natAbs:=by
 rw[Int.natAbs_tmod];exact Nat.mod_lt _ A0
def Kg(a)(ha: -1099511627776<=a/\a<=1099511627776):DZ prog 137 [.i .i64 a] (.i .i64 (a.natAbs:Int)):=by
 refine BI AY func137 rfl AP ntmps137 results137 (.i _ _) (λnx cX=>?_)
 refine CT ?_;refine CT ?_;refine BQ ?_;refine it ?_
 split<;>omega
def Ex(a b)(ha: -1099511627776<=a/\a<=1099511627776)(hb: -1099511627776<=b/\b<=1099511627776):DZ prog 193 [.i .i64 a,.i .i64 b] (.i .i64 (Int.gcd a b:Int)):=by
 refine BI AY func193 rfl AP ntmps193 results193 (.i _ _) (λnx cX=>?_)
 refine CT ?_;refine A6 λN1 CW=>AA<|AM (α:=Int×Int) (λx=>sl 13 [(0,.i .i64 x.1),(1,.i .i64 x.2)]) (λ_=>DD) (λx m=>(-1099511627776<=x.1/\x.1<=1099511627776/\-1099511627776<=x.2/\x.2<=1099511627776)/\Int.gcd x.1 x.2=Int.gcd a b) (λx=>x.2.natAbs) ((a,b)) ?_ ?_ (λ_ _ h=>h) ?_
 ·exact⟨⟨ha.1,ha.2,hb.1,hb.2⟩,rfl⟩
 ·exact FV
 rintro⟨c,d⟩ m ⟨⟨o8,qO,S3,WZ⟩,hI⟩
 dsimp only at o8 qO S3 WZ hI ⊢
 refine BH ?_;refine A6 λN2 DN=>CT ?_;refine AK ?_ ?_<;>intro h1
 ·have HX:=A5R (a:=c) (show d≠0 by simpa using h1);apply AF;apply DN;refine AA<|UR AY AP [true,true,true,true,false,false] AP ?_;refine BH ?_;refine BB (d,c.tmod d) ?_ ?_ ?_
  ·exact FV
  ·exact⟨⟨AI,AI,AI,AI⟩,by rw[<-hI];exact A06⟩
  exact AI
 obtain rfl:d=0:=by simpa using h1
 rw[Int.gcd_zero_right]at hI
 apply AO;apply CW;refine UN (Kg c ⟨o8,qO⟩) ?_;refine BQ ?_;exact it (by rw[hI])
end
section
def IS{α:Type}(f:α->α):Nat->α->α
 |0,x=>x
 |k+1,x=>f (IS f k x)
def W0{α:Type}(f:α->α)(a b:Nat)(x:α):IS f (a+b) x=IS f b (IS f a x):=by
 induction b with
 |zero=>rfl
 |succ b ih=>rw[<-DS,IS,IS,ih]
def RL{α:Type}{f:α->α}{p:α->Prop}(hf:∀x,p x->p (f x)):∀k x,p x->p (IS f k x):=by
 intro k;induction k with
 |zero=>exact λ_ h=>h
 |succ k ih=>exact λx h=>hf _ (ih x h)
abbrev V:=Nat->Int
def z0:V:=λ_=>0
def QI{i}:D0 z0 i 0=z0:=by funext k;simp[D0,z0]
def EM{f:V}{i:Nat}{x:Int}:D0 f i x i=x:=by simp[D0]
def EW{f:V}{i k:Nat}{x:Int}(h:k≠i):D0 f i x k=f k:=by simp[D0,h]
def JW{f:V}{i:Nat}{x y:Int}:D0 (D0 f i x) i y=D0 f i y:=by funext k;simp only[D0];split<;>rfl
def MH{f:V}{i:Nat}{x:Int}(h:f i=x):D0 f i x=f:=by funext k;simp only[D0];split<;>simp_all
structure Pc where
 n:Nat
 o:Nat->Int
 pw:Nat->V
 cj:Nat->Nat->V
def RB(mul:V->V->V)(c:Nat->V)(x:V):Nat->Nat->V->V
 |0,_,u=>u
 |m+1,j,u=>RB mul c x m (j+1) (IS (λu=>mul u (c j)) (x j).toNat u)
def IN(P:Pc)(mul:V->V->V)(i:Nat)(x:V):V:=RB mul (P.cj i) x (P.n-(i+1)) (i+1) z0
def wX(P:Pc)(i:Nat)(mul:V->V->V)(a b:V):V:=
 if P.o i<=a i+b i then D0 (mul (P.pw i) (mul (IS (IN P mul i) (b i).toNat (D0 a i 0)) (D0 b i 0))) i (a i+b i-P.o i)
 else D0 (mul (IS (IN P mul i) (b i).toNat (D0 a i 0)) (D0 b i 0)) i (a i+b i)
def Md(P:Pc):Nat->V->V->V
 |0=>λ_ _=>z0
 |d+1=>wX P (P.n-(d+1)) (Md P d)
def M(P:Pc)(i:Nat):V->V->V:=Md P (P.n-i)
def oW{P i}(h:P.n<=i)(a b):M P i a b=z0:=by
 rw[M,show P.n-i=0 by omega];rfl
def YI{P i}(h:i<P.n):M P i=wX P i (M P (i+1)):=by
 rw[M,M,show P.n-i=(P.n-(i+1))+1 by omega,Md,show P.n-(P.n-(i+1)+1)=i by omega]
structure T(P:Pc)(i:Nat)(x:V):Prop where
 z:∀k,k<i->x k=0
 r:∀k,i<=k->k<P.n->0<=x k/\x k<P.o k
 t:∀k,P.n<=k->x k=0
structure LK(P:Pc):Prop where
 o:∀i,i<P.n->1<P.o i
 pw:∀i,i<P.n->T P (i+1) (P.pw i)
 cj:∀i j,i<j->j<P.n->T P (i+1) (P.cj i j)
variable{P:Pc}
def T.ge{i x}(h:T P i x)(hi:P.n<=i):x=z0:=by
 funext k
 by_cases e:k<i
 ·exact h.z k e
 exact h.t k A0
def T.zero(hv:LK P)(i):T P i z0:=⟨λ_ _=>rfl,λk _ h=>by have:=hv.o k h;exact⟨GG _,by show(0:Int)<_;omega⟩,λ_ _=>rfl⟩
def T.mono(hv:LK P){i j}(Q3:i<=j){x}(h:T P j x):T P i x:=
 ⟨λk hk=>h.z k A0,λk h1 h2=>by
  by_cases e:j<=k
  ·exact h.r k e h2
  rw[h.z k A0];have:=hv.o k h2;omega,h.t⟩
def T.cut{i x}(h:T P i x):T P (i+1) (D0 x i 0):=
 ⟨λk hk=>by
   by_cases e:k=i
   ·subst e;exact EM
   rw[EW e];exact h.z k A0,
  λk h1 h2=>by rw[EW A0];exact h.r k A0 h2,
  λk hk=>by
   by_cases e:k=i
   ·subst e;exact EM
   rw[EW e];exact h.t k hk⟩
def T.put{i}(hi:i<P.n){x}(h:T P (i+1) x){a}(h0:0<=a)(h1:a<P.o i):T P i (D0 x i a):=
 ⟨λk hk=>by rw[EW A0];exact h.z k A0,
  λk h2 h3=>by
   by_cases e:k=i
   ·subst e;rw[EM];exact⟨h0,h1⟩
   rw[EW e];exact h.r k A0 h3,
  λk hk=>by rw[EW A0];exact h.t k hk⟩
def T.aG{i x}(h:T P (i+1) x)(a):D0 (D0 x i a) i 0=x:=by
 rw[JW];exact MH (h.z i A0)
def A97{mul:V->V->V}{N:V->Prop}(hm:∀a b,N a->N b->N (mul a b)){c:Nat->V}{x:V}:∀m j u,(∀k,j<=k->k<j+m->N (c k))->N u->N (RB mul c x m j u):=by
 intro m;induction m with
 |zero=>exact λ_ _ _ h=>h
 | succ m ih=>
   intro j u hc hu;exact ih (j+1) _ (λk h1 h2=>hc k A0 A0) (RL (λy hy=>hm _ _ hy (hc j A0 A0)) _ _ hu)
def eM(hv:LK P){mul i}(hm:∀a b,T P (i+1) a->T P (i+1) b->T P (i+1) (mul a b))(x):T P (i+1) (IN P mul i x):=
 A97 hm _ _ _ (λk h1 h2=>hv.cj i k A0 A0) (T.zero hv _)
def AJ5(hv:LK P){mul i}(hi:i<P.n)(hm:∀a b,T P (i+1) a->T P (i+1) b->T P (i+1) (mul a b)){a b}(ha:T P i a)(hb:T P i b):T P i (wX P i mul a b):=by
 have h1:=ha.r i A0 hi;have h2:=hb.r i A0 hi;have h3:T P (i+1) (mul (IS (IN P mul i) (b i).toNat (D0 a i 0)) (D0 b i 0)):=hm _ _ (RL (λy _=>eM hv hm y) _ _ ha.cut) hb.cut;unfold wX;split
 ·exact T.put hi (hm _ _ (hv.pw i hi) h3) A0 A0
 exact T.put hi h3 A0 A0
def aH(hv:LK P){i a b}(ha:T P i a)(hb:T P i b):T P i (M P i a b):=by
 by_cases hi:P.n<=i
 ·rw[oW hi];exact T.zero hv _
 have key:∀d i,P.n-i=d->∀a b,T P i a->T P i b->T P i (M P i a b):=by
  intro d;induction d with
  |zero=>intro i hd a b _ _;rw[oW A0];exact T.zero hv _
  | succ d ih=>
    intro i hd a b ha hb;rw[YI A0];exact AJ5 hv A0 (ih (i+1) A0) ha hb
 exact key _ i rfl a b ha hb
structure TU(N:V->Prop)(m:V->V->V):Prop where
 cl:∀{a b},N a->N b->N (m a b)
 ac:∀{a b c},N a->N b->N c->m (m a b) c=m a (m b c)
 e0:N z0
 l1:∀{a},N a->m z0 a=a
 r1:∀{a},N a->m a z0=a
 iv:∀{a},N a->∃b,N b/\m b a=z0/\m a b=z0
section
variable{N:V->Prop}{m:V->V->V}
def TU.lc(h:TU N m){a b c}(ha:N a)(hb:N b)(hc:N c)(e:m a b=m a c):b=c:=by
 obtain⟨v,h1,h2,h3⟩:=h.iv ha;rw[<-h.l1 hb,<-h2,h.ac h1 ha hb,e,<-h.ac h1 ha hc,h2,h.l1 hc]
def TU.rc(h:TU N m){a b c}(ha:N a)(hb:N b)(hc:N c)(e:m b a=m c a):b=c:=by
 obtain⟨v,h1,h2,h3⟩:=h.iv ha;rw[<-h.r1 hb,<-h3,<-h.ac hb ha h1,e,h.ac hc ha h1,h3,h.r1 hc]
def rep(m:V->V->V)(x:V)(k:Nat):V:=IS (λu=>m u x) k z0
def TU.rep(h:TU N m){x}(hx:N x)(k):N (rep m x k):=RL (λy hy=>h.cl hy hx) _ _ h.e0
def TU.Ot(h:TU N m){x u}(hx:N x)(hu:N u)(k):IS (λu=>m u x) k u=m u (Go.Proofs.YtgknbnkmilddhaaGreat.rep m x k):=by
 induction k with
 |zero=>exact(h.r1 hu).symm
 |succ k ih=>rw[IS,ih,h.ac hu (h.rep hx k) hx];rfl
def TU.OJ(h:TU N m){x}(hx:N x)(a b):Go.Proofs.YtgknbnkmilddhaaGreat.rep m x (a+b)=m (Go.Proofs.YtgknbnkmilddhaaGreat.rep m x a) (Go.Proofs.YtgknbnkmilddhaaGreat.rep m x b):=by
 rw[Go.Proofs.YtgknbnkmilddhaaGreat.rep,W0,<-h.Ot hx (h.rep hx a)];rfl
def TU.iZ(h:TU N m){x}(hx:N x):Go.Proofs.YtgknbnkmilddhaaGreat.rep m x 1=x:=h.l1 hx
def TU.yH(h:TU N m){x}(hx:N x)(k):Go.Proofs.YtgknbnkmilddhaaGreat.rep m x (k+1)=m x (Go.Proofs.YtgknbnkmilddhaaGreat.rep m x k):=by
 rw[FP,h.OJ hx,h.iZ hx]
def TU.RB(h:TU N m){c x}:∀q j u,(∀k,j<=k->k<j+q->N (c k))->N u->Go.Proofs.YtgknbnkmilddhaaGreat.RB m c x q j u=m u (Go.Proofs.YtgknbnkmilddhaaGreat.RB m c x q j z0):=by
 intro q;induction q with
 |zero=>exact λ_ u _ hu=>(h.r1 hu).symm
 | succ q ih=>
   intro j u hc hu;have hj:N (c j):=hc j A0 A0;have VJ:∀k,j+1<=k->k<j+1+q->N (c k):=λk h1 h2=>hc k A0 A0
   have h3:=A97 (λa b=>h.cl) q (j+1) z0 VJ h.e0 (x:=x);rw[Go.Proofs.YtgknbnkmilddhaaGreat.RB,ih (j+1) _ VJ (RL (λy hy=>h.cl hy hj) _ _ hu),h.Ot hj hu,h.ac hu (h.rep hj _) h3,Go.Proofs.YtgknbnkmilddhaaGreat.RB,
    ih (j+1) (IS _ _ z0) VJ (RL (λy hy=>h.cl hy hj) _ _ h.e0)]
   rfl
end
structure Ext(N:V->Prop)(m:V->V->V)(p:Nat)(w:V)(φ:V->V):Prop where
 g:TU N m
 fc:∀{x},N x->N (φ x)
 fm:∀{x y},N x->N y->φ (m x y)=m (φ x) (φ y)
 f0:φ z0=z0
 hw:N w
 fw:φ w=w
 inn:∀{x},N x->m w (IS φ p x)=m x w
section
variable{N:V->Prop}{m:V->V->V}{p:Nat}{w:V}{φ:V->V}
def Ext.ic(h:Ext N m p w φ){x}(hx:N x)(k):N (IS φ k x):=RL (λ_ h'=>h.fc h') _ _ hx
def Ext.im(h:Ext N m p w φ){x y}(hx:N x)(hy:N y)(k):IS φ k (m x y)=m (IS φ k x) (IS φ k y):=by
 induction k with
 |zero=>rfl
 |succ k ih=>rw[IS,ih,h.fm (h.ic hx k) (h.ic hy k)];rfl
def Ext.i0(h:Ext N m p w φ)(k):IS φ k z0=z0:=by
 induction k with
 |zero=>rfl
 |succ k ih=>rw[IS,ih,h.f0]
def Ext.iw(h:Ext N m p w φ)(k):IS φ k w=w:=by
 induction k with
 |zero=>rfl
 |succ k ih=>rw[IS,ih,h.fw]
def xm(m:V->V->V)(p:Nat)(w:V)(φ:V->V)(a:Nat)(x:V)(b:Nat)(y:V):Nat×V:=
 if p<=a+b then (a+b-p,m w (m (IS φ b x) y))else (a+b,m (IS φ b x) y)
def Ext.assoc(h:Ext N m p w φ){a b c x y z}(ha:a<p)(hb:b<p)(hc:c<p)(hx:N x)(hy:N y)(hz:N z):
    xm m p w φ (xm m p w φ a x b y).1 (xm m p w φ a x b y).2 c z=xm m p w φ a x (xm m p w φ b y c z).1 (xm m p w φ b y c z).2:=by
  have g:=h.g;have e1:=h.ic hx;have e2:=h.ic hy;have key:∀q r,q=p+r->m w (IS φ q x)=m (IS φ r x) w:=by
    intro q r hq;rw[hq,FP,W0,h.inn (e1 r)]
  unfold xm;by_cases h1:p<=a+b<;>by_cases h2:p<=b+c
  · simp only[h1,h2,if_true];have q1:IS φ c (m w (m (IS φ b x) y))=m w (m (IS φ (b+c) x) (IS φ c y)):=by
      rw[h.im h.hw (g.cl (e1 b) hy),h.im (e1 b) hy,h.iw,<-W0]
    have q2:m (IS φ (b+c-p) x) (m w (m (IS φ c y) z))=m w (m (IS φ (b+c) x) (m (IS φ c y) z)):=by
      rw[<-g.ac (e1 _) h.hw (g.cl (e2 c) hz),<-key (b+c) (b+c-p) A0,g.ac h.hw (e1 _) (g.cl (e2 c) hz)]
    have q3:m (m w (m (IS φ (b+c) x) (IS φ c y))) z=m w (m (IS φ (b+c) x) (m (IS φ c y) z)):=by
      rw[g.ac h.hw (g.cl (e1 _) (e2 c)) hz,g.ac (e1 _) (e2 c) hz]
    rw[q1,q2,q3];by_cases h3:p<=a+b-p+c
    · rw[if_pos h3,if_pos A0];congr 1;omega
    rw[if_neg h3,if_neg A0];congr 1;omega
  · simp only[h1,h2,if_true,if_false];have q1:IS φ c (m w (m (IS φ b x) y))=m w (m (IS φ (b+c) x) (IS φ c y)):=by
      rw[h.im h.hw (g.cl (e1 b) hy),h.im (e1 b) hy,h.iw,<-W0]
    have q3:m (m w (m (IS φ (b+c) x) (IS φ c y))) z=m w (m (IS φ (b+c) x) (m (IS φ c y) z)):=by
      rw[g.ac h.hw (g.cl (e1 _) (e2 c)) hz,g.ac (e1 _) (e2 c) hz]
    rw[q1,q3,if_neg A0,if_pos A0];congr 1;omega
  · simp only[h1,h2,if_true,if_false];have q1:IS φ c (m (IS φ b x) y)=m (IS φ (b+c) x) (IS φ c y):=by
      rw[h.im (e1 b) hy,<-W0]
    have q2:m (IS φ (b+c-p) x) (m w (m (IS φ c y) z))=m w (m (IS φ (b+c) x) (m (IS φ c y) z)):=by
      rw[<-g.ac (e1 _) h.hw (g.cl (e2 c) hz),<-key (b+c) (b+c-p) A0,g.ac h.hw (e1 _) (g.cl (e2 c) hz)]
    rw[q1,q2,g.ac (e1 _) (e2 c) hz,if_pos A0,if_neg A0];congr 1;omega
  simp only[h1,h2,if_true,if_false];have q1:IS φ c (m (IS φ b x) y)=m (IS φ (b+c) x) (IS φ c y):=by
    rw[h.im (e1 b) hy,<-W0]
  rw[q1,g.ac (e1 _) (e2 c) hz];by_cases h3:p<=a+b+c
  · rw[if_pos h3,if_pos A0];congr 1;omega
  rw[if_neg h3,if_neg A0];congr 1;omega
end
end
end Go.Proofs.YtgknbnkmilddhaaGreat