import Derived.Test.YtgknbnkmilddhaaGreatZ09
set_option linter.unusedVariables false
set_option linter.unusedSimpArgs false

namespace Go.Proofs.YtgknbnkmilddhaaGreat
def fl(a:List Int):V:=λk=>a.getD k 0
def vi(n:Nat)(f:V):AV:= .v n (D3 n f)
theorem E3{n:Nat}{f:V}:ints (vec n f)=vi n f:=by unfold ints vi;rw[BL,K4]
theorem D5{n:Nat}{a:List Int}(h:a.length=n):ints a=vi n (fl a):=by
  subst h;rw[<-E3];congr 1;exact jU a
theorem J8(n:Nat)(f:V):NR (vi n f):=by rw[<-E3];exact GV _
theorem A0Q{n:Nat}{f g:V}(h:∀k,k<n->f k=g k):vi n f=vi n g:=by unfold vi;rw[E1 h]
theorem A0R{n:Nat}{f g:V}:vec n f=vec n g↔∀k,k<n->f k=g k:=by
  constructor
  · intro h k hk;have:=congrArg (λl=>l.getD k 0) h;simp only[K3 hk]at this;exact this
  exact Oi
def pc(os:List Int)(pw:List (List Int))(cj:List (List (List Int))):Pc:=
  ⟨os.length,λi=>os.getD i 0,λi=>fl (pw.getD i []),λi j=>fl ((cj.getD i []).getD (j-i-1) [])⟩
section
variable{os:List Int}{pw:List (List Int)}{cj:List (List (List Int))}
theorem Dr.T{v:List Int}{i:Nat}(h:Dr os v i):Go.Proofs.YtgknbnkmilddhaaGreat.T (pc os pw cj) (i+1) (fl v):=by
  have hl:=h.1;refine⟨λk hk=>?_,λk h1 h2=>?_,λk hk=>?_⟩
  · by_cases e:k<v.length
    · exact(h.2 k e).2 A0
    simp only[fl];simp[List.getD_eq_getElem?_getD,List.getElem?_eq_none (Nat.le_of_not_lt e)]
  · have h3:k<os.length:=h2;have:=(h.2 k A0).1;refine⟨this.1,?_⟩;show v.getD k 0<os.getD k 0
    omega
  have h3:os.length<=k:=hk;simp only[fl];simp[List.getD_eq_getElem?_getD,List.getElem?_eq_none (show v.length<=k by omega)]
theorem exP.T{v:List Int}(h:exP os v):Go.Proofs.YtgknbnkmilddhaaGreat.T (pc os pw cj) 0 (fl v):=by
  have hl:=h.1;refine⟨λk hk=>A0,λk h1 h2=>?_,λk hk=>?_⟩
  · have h3:k<os.length:=h2;have:=h.2 k A0;refine⟨this.1,?_⟩;show v.getD k 0<os.getD k 0
    omega
  have h3:os.length<=k:=hk;simp only[fl];simp[List.getD_eq_getElem?_getD,List.getElem?_eq_none (show v.length<=k by omega)]
theorem AF.val(h:AF os pw cj):GX (pc os pw cj):=by
  refine⟨λi hi=>?_,λi hi=>(h.2.2.2 i hi).1.T,λi j NZ hj=>?_⟩
  · have:=CE (h.2.1 i hi);show 1<os.getD i 0
    omega
  have h1:=h.2.2.2 i (Nat.lt_trans NZ hj);have h2:j<os.length:=hj;exact(h1.2.2 (j-i-1) (by have:=h1.2.1;omega)).T
theorem AF.o7(h:AF os pw cj){i:Nat}(hi:i<os.length):2<=(pc os pw cj).o i/\(pc os pw cj).o i<=7:=CE (h.2.1 i hi)
theorem AF.pwl(h:AF os pw cj){i:Nat}(hi:i<os.length):(pw.getD i []).length=os.length:=(h.2.2.2 i hi).1.1
theorem AF.An(h:AF os pw cj){i j:Nat}(NZ:i<j)(hj:j<os.length):((cj.getD i []).getD (j-i-1) []).length=os.length:=by
  have h1:=h.2.2.2 i (Nat.lt_trans NZ hj);exact(h1.2.2 (j-i-1) (by have:=h1.2.1;omega)).1
theorem T.small(h:AF os pw cj){i:Nat}{x:V}(hx:T (pc os pw cj) i x)(k:Nat):0<=x k/\x k<=6:=by
  by_cases h1:k<i
  · rw[hx.z k h1];omega
  by_cases h2:k<os.length
  · have h3:=hx.r k A0 h2;have h4:=h.o7 h2;omega
  rw[hx.t k (by have:(pc os pw cj).n=os.length:=rfl;omega)];omega
end
theorem ES{cX n ops y s s1 K}(q:AW cX Tryz.prog y s1 K)(e:BV ops s s1:=by intro N hN;(try simp-dsimp-implicitDefEqProofs(maxSteps:=800000) (disch:=omega)only[go_sem,A6,DT,AL,BN,ints,AP,A5,rows,vi]);exact hN):BU cX n ops y s K:=BY q e
theorem HG{P Q:Prop}(q:Q)(e:Q->P:=by intro q;(try simp-dsimp-implicitDefEqProofs(maxSteps:=800000) (disch:=omega)only[go_sem,A6,DT,AL,BN,ints,AP,A5,rows,vi]);exact q):P:=e q
theorem SE{cX n ops s}{K:Exit->St->Prop}{Q:Prop}(q:Q)(e:Q->DW env Tryz.prog ops s.nx ops 0 ⟨s.t,s.H,s.nx+ops.length⟩ (K .normal):=by intro q;(try simp-dsimp-implicitDefEqProofs(maxSteps:=800000) (disch:=omega)only[go_sem,A6,DT,AL,BN,ints,AP,A5,rows,vi]);exact q):AW cX Tryz.prog (.region n ops.toArray false) s K:=rQ (e q)
theorem Dw{P Q:Prop}{R0:Prop}(r0:R0)(q:Q)(e:R0->Q->P:=by intro h0 q;(try simp-dsimp-implicitDefEqProofs(maxSteps:=800000) (disch:=omega)only[go_sem,List.drop_nil,List.drop_succ_cons,List.drop_zero,List.take_nil,List.take_succ_cons,List.take_zero,A6,DT,AL,BN,BW,BE,BF,ints,AP,A5,rows,vi,AR,h0]);exact q):P:=e r0 q
theorem NG(os:List Int)(pw:List (List Int))(cj:List (List (List Int)))(h:AF os pw cj)(i:Nat)(hi:i<os.length)(hAt:∀a b,T (pc os pw cj) (i+1) a->T (pc os pw cj) (i+1) b->BI Tryz.prog 212 [AP os pw cj,.i .i64 ((i:Int)+1),vi os.length a,vi os.length b] (vi os.length (M (pc os pw cj) (i+1) a b)))(a:V)(ha:T (pc os pw cj) (i+1) a):BI Tryz.prog 257 [AP os pw cj,.i .i64 i,vi os.length a] (vi os.length (E2 (pc os pw cj) (M (pc os pw cj) (i+1)) i a)):=by
 have hv:=h.val
 have FU:=h.1.1
 have YN:=h.1.2.1
 have JN:=h.1.2.2
 refine AD AA Tryz.func257 rfl A7 Tryz.ntmps257 Tryz.results257 (J8 _ _) (λnx cX=>?_)
 refine ES ?_;refine AK 3 nx _ rfl (A4 _ _ _) ?_
 refine AG ?_;refine ES ?_;refine ES ?_;refine AW.seq λN1 B2=>?_;refine CZ 8 (nx+2+4+1) os.length (List.replicate os.length (.i .i64 0)) rfl (A4 _ _ _) AB ?_
 refine AG ?_;refine ES ?_;apply AW.block;refine A8 (α:=Nat×V) (λx=>sl 48 [(1,.i .i64 i),(2,vi os.length a),(3,A5 os pw cj),(7,.i .i64 os.length),(8,vi os.length x.2),(9,.i .i64 x.1)]) (λ_=>BM) (λx m=>(i+1<=x.1/\x.1<=os.length)/\T (pc os pw cj) (i+1) x.2/\JH (M (pc os pw cj) (i+1)) ((pc os pw cj).cj i) a (os.length-x.1) x.1 x.2=E2 (pc os pw cj) (M (pc os pw cj) (i+1)) i a) (λx=>os.length-x.1) ((i+1,z0)) ?_ ?_ (by intro d cs hd;simp only[BM]at hd;cases hd) ?_
 ·exact⟨⟨Nat.le_refl _,hi⟩,T.zero hv _,rfl⟩
 ·simp(disch:=omega) [AN,AO,sl,A5,ints,rows,A6,vi,CO]<;>first|omega|rfl
 skip
 rintro⟨j,u⟩ m ⟨⟨Cq,u9⟩,hu,hf⟩
 dsimp only at Cq u9 hu hf
 simp only[vi,A5];refine AG ?_;refine AW.seq λN2 B7=>?_;refine ES ?_;refine AW.cond rfl ?_ ?_<;>intro h1<;>try simp only[cn]at h1
 ·have hjo:j<os.length:=A0;have yX:=T.small h ha j;apply AW.skip;apply B7;refine AW.seq λN3 BC=>?_;apply AW.block;refine ES ?_;apply AW.block;refine A8 (α:=Nat×V) (λx=>sl 48 [(1,.i .i64 i),(2,vi os.length a),(3,A5 os pw cj),(7,.i .i64 os.length),(8,vi os.length x.2),(9,.i .i64 j),(10,.i .i64 x.1)]) (λ_=>BM) (λx m=>x.1<=(a j).toNat/\T (pc os pw cj) (i+1) x.2/\x.2=DG (λw=>M (pc os pw cj) (i+1) w ((pc os pw cj).cj i j)) x.1 u) (λx=>(a j).toNat-x.1) ((0,u)) ?_ ?_ (λ_ _ h=>h) ?_
  ·exact⟨Nat.zero_le _,hu,rfl⟩
  ·simp(disch:=omega) [AN,AO,sl,A5,ints,rows,A6,vi]
  skip
  rintro⟨q,w⟩ m2 ⟨hq,hw,he⟩;dsimp only at hq hw he;simp only[vi,A5];refine AG ?_;refine AW.seq λN4 CF=>?_;refine ES ?_;refine AW.cond rfl ?_ ?_<;>intro h2<;>try simp only[cn]at h2
  ·have ej:((j:Int)-i-1).toNat=j-i-1:=A0;have c7:=(h.2.2.2 i hi).2.1;have e1:AV.v ((cj.getD i []).getD (j-i-1) []).length (List.map (AV.i IntKind.i64) ((cj.getD i []).getD (j-i-1) []))=vi os.length ((pc os pw cj).cj i j):=D5 (h.An A0 hjo);apply AW.skip;apply CF;refine AW.seq λN5 DL=>?_;apply AW.block;refine AM AA A7 17 A7 ?_
   refine Dw ej ?_;rw[e1];refine⟨_,.of (hAt w _ hw (hv.cj i j A0 hjo)),?_⟩;refine HG ?_
   apply DL;refine SE ?_;refine⟨(q+1,M (pc os pw cj) (i+1) w ((pc os pw cj).cj i j)),?_,λ_ _ h=>h,?_,?_⟩
   ·simp(disch:=omega) [AN,AO,sl,A5,AR,ints,rows,A6,vi]<;>omega
   ·exact⟨A0,gH hv hw (hv.cj i j A0 hjo),by rw[he];rfl⟩
   first|omega|(simp only;omega)
  apply AW.exit;apply BC;refine SE ?_;refine⟨(j+1,w),?_,λ_ _ h=>h,?_,?_⟩
  ·simp(disch:=omega) [AN,AO,sl,A5,AR,ints,rows,A6,vi]<;>omega
  ·refine⟨A0,hw,?_⟩;rw[<-hf,he,show os.length-j=os.length-(j+1)+1 by omega,JH,show q=(a j).toNat by omega]
  first|omega|(simp only;omega)
 apply AW.exit;apply B2;refine ES ?_;refine AH ?_;obtain rfl:j=os.length:=A0
 rw[Nat.sub_self]at hf
 rw[<-hf];rfl
theorem GP{n:Nat}(f:V)(hn:n<=1099511627776)(nx:Nat)(H:HP):AC Tryz.prog 87 nx H [vi n f] (λBB H' r=>Al nx BB H H' r n f):=by
  have:=CJ (vec n f) (by rw[BL];exact hn) nx H;rw[E3,BL]at this;refine this.mono ?_;rintro BB H' r ⟨id,h1,h2,h3,h4⟩;exact⟨id,h1,h2,h3,by rw[h4,E1 (λk hk=>K3 hk)]⟩
theorem Vw.vi{H:HP}{id n:Nat}{f:V}(h:H id=some (Go.Proofs.YtgknbnkmilddhaaGreat.D3 n f)):Vw H (.h id 0 n) (Go.Proofs.YtgknbnkmilddhaaGreat.vi n f):=Vw.CP h CR.symm
theorem nQ{P Q:Prop}(q:Q)(e:Q->P:=by intro q;(try simp-dsimp-implicitDefEqProofs(maxSteps:=800000) (disch:=omega)only[go_sem,List.drop_nil,List.drop_succ_cons,List.drop_zero,List.take_nil,List.take_succ_cons,List.take_zero,A6,DT,AL,BN,BW,BE,BF,ints,AP,A5,rows,vi,AR]);exact q):P:=e q
theorem Dx{cX n ops y s s1 K f Zz r}(x:BI Tryz.prog f Zz r)(q:AW cX Tryz.prog y s1 K)(e:BI Tryz.prog f Zz r->BV ops s s1:=by intro x N hN;(try simp-dsimp-implicitDefEqProofs(maxSteps:=800000) (disch:=omega)only[go_sem,A6,DT,AL,BN,ints,AP,A5,rows,vi]);refine AC.pure (.of x) ?_;(try simp-dsimp-implicitDefEqProofs(maxSteps:=800000) (disch:=omega)only[go_sem,A6,DT,AL,BN,ints,AP,A5,rows,vi]);exact hN):BU cX n ops y s K:=BY q (e x)
theorem kB{P f nx H Zz r}{K:Nat->HP->AV->Prop}{Q:Prop}(x:BI P f Zz r)(q:Q)(e:Q->K nx H r:=by intro q;(try simp-dsimp-implicitDefEqProofs(maxSteps:=800000) (disch:=omega)only[go_sem,A6,DT,AL,BN,ints,AP,A5,rows,vi]);exact q):AC P f nx H Zz K:=AC.pure (.of x) (e q)
theorem YV(os:List Int)(pw:List (List Int))(cj:List (List (List Int)))(h:AF os pw cj)(i:Nat)(hi:i<os.length)(hAt:∀a b,T (pc os pw cj) (i+1) a->T (pc os pw cj) (i+1) b->BI Tryz.prog 212 [AP os pw cj,.i .i64 ((i:Int)+1),vi os.length a,vi os.length b] (vi os.length (M (pc os pw cj) (i+1) a b)))(a b:V)(ha:T (pc os pw cj) i a)(hb:T (pc os pw cj) i b):BI Tryz.prog 212 [AP os pw cj,.i .i64 i,vi os.length a,vi os.length b] (vi os.length (M (pc os pw cj) i a b)):=by
 have hv:=h.val
 have FU:=h.1.1
 have YN:=h.1.2.1
 have JN:=h.1.2.2
 have Ck:=T.small h ha i
 have hsb:=T.small h hb i
 have bM:=h.o7 hi
 have A0S:(pc os pw cj).o i=os.getD i 0:=rfl
 refine B5 AA Tryz.func212 rfl A7 Tryz.ntmps212 Tryz.results212 ((J8 _ _)) (λnx cX=>?_)
 refine ES ?_;refine AK 4 nx _ rfl (A4 _ _ _) ?_
 refine AG ?_;refine ES ?_;refine AW.seq λN1 B2=>?_;refine ES ?_;refine AW.cond rfl ?_ ?_<;>intro h1<;>try simp only[cn]at h1
 ·exfalso;omega
 apply AW.skip;apply B2;refine sQ λN hN=>?_;refine HG ?_;refine(GP a A0 _ _).mono ?_
 rintro Us H1 r1 ⟨iF,rfl,g1,g2,rfl⟩
 refine HG ?_
 refine(GP b A0 _ _).mono ?_
 rintro nx2 H2 r2 ⟨GC,rfl,g3,g4,rfl⟩
 refine HG ?_
 apply hN;refine ES ?_;refine ES ?_;refine AW.seq λN2 B7=>?_;refine CZ 10 iF os.length (D3 os.length (AX a i 0)) rfl (by simp(disch:=omega)only[A4,A1]) CR ?_
 refine AG ?_;refine CZ 11 GC os.length (D3 os.length (AX b i 0)) rfl (by simp(disch:=omega)only[A4,A1]) CR ?_
 refine AG ?_;refine ES ?_;apply AW.block;refine A8 (α:=Nat×V) (λx=>sl 92 [(1,.i .i64 i),(2,vi os.length a),(3,vi os.length b),(4,A5 os pw cj),(10,vi os.length x.2),(11,vi os.length (AX b i 0)),(12,.i .i64 x.1)]) (λ_=>BM) (λx m=>x.1<=(b i).toNat/\T (pc os pw cj) (i+1) x.2/\x.2=DG (E2 (pc os pw cj) (M (pc os pw cj) (i+1)) i) x.1 (AX a i 0)) (λx=>(b i).toNat-x.1) ((0,AX a i 0)) ?_ ?_ (by intro d cs hd;simp only[BM]at hd;cases hd) ?_
 ·exact⟨Nat.zero_le _,ha.cut,rfl⟩
 ·simp(disch:=omega) [AN,AO,sl,A5,ints,rows,A6,vi]
 skip
 rintro⟨q,w⟩ m ⟨hq,hw,he⟩
 dsimp only at hq hw he
 simp only[vi,A5];refine AG ?_;refine AW.seq λN3 BC=>?_;refine ES ?_;refine AW.cond rfl ?_ ?_<;>intro h2<;>try simp only[cn]at h2
 ·apply AW.skip;apply BC;refine AW.seq λN4 CF=>?_;apply AW.block;refine SE ?_;refine kB (NG os pw cj h i hi hAt w hw) ?_
  apply CF;refine SE ?_;refine⟨(q+1,E2 (pc os pw cj) (M (pc os pw cj) (i+1)) i w),?_,λ_ _ h=>h,?_,?_⟩
  ·simp(disch:=omega) [AN,AO,sl,A5,AR,ints,rows,A6,vi]<;>omega
  ·exact⟨A0,Y6 hv (λ_ _=>gH hv) _,by rw[he];rfl⟩
  first|omega|(simp only;omega)
 obtain rfl:q=(b i).toNat:=A0
 apply AW.exit;apply B7;refine Dx (hAt w (AX b i 0) hw hb.cut) ?_;refine AW.seq λN hN=>?_;refine AM AA A7 10 A7 ?_
 refine nQ ?_;apply hN;refine AW.seq λN5 DL=>?_;refine ES ?_;refine AW.cond rfl ?_ ?_<;>intro h3<;>try simp only[cn]at h3
 ·have e2:AV.v (pw.getD i []).length (List.map (AV.i IntKind.i64) (pw.getD i []))=vi os.length ((pc os pw cj).pw i):=D5 (h.pwl hi);refine ES ?_;refine AM AA A7 11 A7 ?_
  refine nQ ?_;rw[e2];refine⟨_,.of (hAt _ _ (hv.pw i hi) (gH hv hw hb.cut)),?_⟩;refine HG ?_
  apply DL;refine sQ λN hN=>?_;refine HG ?_;refine(GP _ A0 _ _).mono ?_
  rintro nx3 H3 r3 ⟨Lo,rfl,g5,g6,rfl⟩;refine HG ?_
  apply hN;refine ES ?_;refine ES ?_;refine AH ?_;refine Vw.vi ?_
  rw[A4,UL (show i<(pc os pw cj).n from hi)];unfold mF;rw[if_pos (show(pc os pw cj).o i<=a i+b i from h3),<-he];rfl
 apply AW.skip;apply DL;refine sQ λN hN=>?_;refine HG ?_;refine(GP _ A0 _ _).mono ?_
 rintro nx3 H3 r3 ⟨Lo,rfl,g5,g6,rfl⟩
 refine HG ?_
 apply hN;refine ES ?_;refine ES ?_;refine AH ?_;refine Vw.vi ?_
 rw[A4,UL (show i<(pc os pw cj).n from hi)]
 unfold mF
 rw[if_neg (show ¬(pc os pw cj).o i<=a i+b i by omega),<-he]
theorem M3{cX n ops y s s1 K}(q:AW cX Tryz.prog y s1 K)(e:BV ops s s1:=by intro N hN;(try simp-dsimp-implicitDefEqProofs(maxSteps:=800000) (disch:=omega)only[go_sem,A6,ints,AP,A5,rows,vi]);exact hN):BU cX n ops y s K:=BY q e
theorem c8(os:List Int)(pw:List (List Int))(cj:List (List (List Int)))(h:AF os pw cj)(a b:V):BI Tryz.prog 212 [AP os pw cj,.i .i64 os.length,vi os.length a,vi os.length b] (vi os.length (M (pc os pw cj) os.length a b)):=by
 have FU:=h.1.1
 refine B5 AA Tryz.func212 rfl A7 Tryz.ntmps212 Tryz.results212 ((J8 _ _)) (λnx cX=>?_)
 refine M3 ?_;refine AK 4 nx _ rfl (A4 _ _ _) ?_
 refine AG ?_;refine M3 ?_;refine AW.seq λN1 B2=>?_;refine M3 ?_;refine AW.cond rfl ?_ ?_<;>intro h1<;>try simp only[cn]at h1
 ·refine M3 ?_;refine AH ?_;refine Vw.vi ?_
  rw[A4,show M (pc os pw cj) os.length a b=z0 from gG (P:=pc os pw cj) (Nat.le_refl _) a b,CO];rfl
 simp at h1
theorem EE(os:List Int)(pw:List (List Int))(cj:List (List (List Int)))(h:AF os pw cj):∀(i:Nat),i<=os.length->∀a b,T (pc os pw cj) i a->T (pc os pw cj) i b->
    BI Tryz.prog 212 [AP os pw cj,.i .i64 i,vi os.length a,vi os.length b] (vi os.length (M (pc os pw cj) i a b)):=by
  have key:∀d i,i+d=os.length->∀a b,T (pc os pw cj) i a->T (pc os pw cj) i b->
      BI Tryz.prog 212 [AP os pw cj,.i .i64 i,vi os.length a,vi os.length b] (vi os.length (M (pc os pw cj) i a b)):=by
    intro d;induction d with
    |zero=>intro i hi a b _ _;obtain rfl:i=os.length:=hi;exact c8 os pw cj h a b
    | succ d ih=>
      intro i hi a b ha hb;refine YV os pw cj h i A0 (λa b ha hb=>?_) a b ha hb;have:=ih (i+1) A0 a b ha hb;rwa [Int.natCast_add]at this
  exact λi hi=>key (os.length-i) i A0
theorem FI(os:List Int)(pw:List (List Int))(cj:List (List (List Int)))(h:AF os pw cj)(i:Nat)(hi:i<os.length)(a b:V)(ha:T (pc os pw cj) (i+1) a)(hb:T (pc os pw cj) (i+1) b):
    BI Tryz.prog 212 [AP os pw cj,.i .i64 ((i:Int)+1),vi os.length a,vi os.length b] (vi os.length (M (pc os pw cj) (i+1) a b)):=by
  have:=EE os pw cj h (i+1) hi a b ha hb;rwa [Int.natCast_add]at this
theorem FC(os:List Int)(pw:List (List Int))(cj:List (List (List Int)))(h:AF os pw cj)(i:Nat)(hi:i<os.length)(a:V)(ha:T (pc os pw cj) (i+1) a):BI Tryz.prog 257 [AP os pw cj,.i .i64 i,vi os.length a] (vi os.length (E2 (pc os pw cj) (M (pc os pw cj) (i+1)) i a)):=
  NG os pw cj h i hi (FI os pw cj h i hi) a ha
theorem Dy{N:V->Prop}{m:V->V->V}(g:JU N m){x:V}(hx:N x)(k:Nat):rep m (m x x) k=rep m x (2*k):=by
  induction k with
  |zero=>rfl
  | succ k ih=>
    show m (rep m (m x x) k) (m x x)=_
    rw[ih,Nat.mul_add,g.FX hx];show _=m (rep m x (2*k)) (m (m z0 x) x)
    rw[g.l1 hx]
theorem Dz{cX n ops y s s1 K f Zz r}(x:BI Tryz.prog f Zz r)(q:AW cX Tryz.prog y s1 K)(e:BI Tryz.prog f Zz r->BV ops s s1:=by intro x N hN;(try simp-dsimp-implicitDefEqProofs(maxSteps:=800000) (disch:=omega)only[go_sem,A6,ints,AP,A5,rows,vi]);refine AC.pure (.of x) ?_;(try simp-dsimp-implicitDefEqProofs(maxSteps:=800000) (disch:=omega)only[go_sem,A6,ints,AP,A5,rows,vi]);exact hN):BU cX n ops y s K:=BY q (e x)
theorem HT(os:List Int)(pw:List (List Int))(cj:List (List (List Int)))(h:AF os pw cj)(i:Nat)(hi:i<=os.length)(hg:JU (T (pc os pw cj) i) (M (pc os pw cj) i))(a:V)(ha:T (pc os pw cj) i a)(k:Nat)(hk:k<=1099511627776):BI Tryz.prog 181 [AP os pw cj,.i .i64 i,vi os.length a,.i .i64 k] (vi os.length (rep (M (pc os pw cj) i) a k)):=by
 have hv:=h.val
 have FU:=h.1.1
 refine AD AA Tryz.func181 rfl A7 Tryz.ntmps181 Tryz.results181 (J8 _ _) (λnx cX=>?_)
 refine M3 ?_;refine AK 4 nx _ rfl (A4 _ _ _) ?_
 refine AG ?_;refine M3 ?_;refine CZ 9 (nx+2+3) os.length (List.replicate os.length (.i .i64 0)) rfl (A4 _ _ _) AB ?_
 refine AG ?_;refine M3 ?_;refine AW.seq λN1 B2=>?_;apply AW.block;refine A8 (α:=Nat×V×V) (λx=>sl 34 [(1,.i .i64 i),(3,.i .i64 x.1),(4,A5 os pw cj),(9,vi os.length x.2.1),(10,vi os.length x.2.2)]) (λ_=>BM) (λx m=>x.1<=1099511627776/\T (pc os pw cj) i x.2.1/\T (pc os pw cj) i x.2.2/\M (pc os pw cj) i x.2.1 (rep (M (pc os pw cj) i) x.2.2 x.1)=rep (M (pc os pw cj) i) a k) (λx=>x.1) ((k,z0,a)) ?_ ?_ (by intro d cs hd;simp only[BM]at hd;cases hd) ?_
 ·exact⟨hk,T.zero hv _,ha,hg.l1 (hg.rep ha k)⟩
 ·simp(disch:=omega) [AN,AO,sl,A5,ints,rows,A6,vi,CO]<;>first|omega|rfl
 skip
 rintro⟨q,u,w⟩ m ⟨hq,hu,hw,he⟩
 dsimp only at hq hu hw he
 simp only[vi,A5];refine AG ?_;refine AW.seq λN2 B7=>?_;refine M3 ?_;refine AW.cond rfl ?_ ?_<;>intro h1<;>try simp only[cn]at h1
 ·apply AW.skip;apply B7;apply AW.block;refine AW.seq λN3 BC=>?_;refine M3 ?_;refine AW.cond rfl ?_ ?_<;>intro h2<;>try simp only[cn]at h2
  ·apply rQ;simp-dsimp-implicitDefEqProofs(maxSteps:=800000) (disch:=omega)only[go_sem,A6,ints,AP,A5,rows,vi];refine AC.pure (.of (EE os pw cj h i hi u w hu hw)) ?_;(try simp-dsimp-implicitDefEqProofs(maxSteps:=800000) (disch:=omega)only[go_sem,A6,ints,AP,A5,rows,vi])
   apply BC;refine Dz (EE os pw cj h i hi w w hw hw) ?_;apply rQ;simp-dsimp-implicitDefEqProofs(maxSteps:=800000) (disch:=omega)only[go_sem,A6,ints,AP,A5,rows,vi];refine⟨(q/2,M (pc os pw cj) i u w,M (pc os pw cj) i w w),?_,λ_ _ h=>h,?_,?_⟩
   ·simp(disch:=omega) [AN,AO,sl,A5,AR,ints,rows,A6,vi]<;>omega
   ·rw[Int.tmod_eq_emod_of_nonneg A0]at h2;refine⟨A9,hg.cl hu hw,hg.cl hw hw,?_⟩;show M (pc os pw cj) i (M (pc os pw cj) i u w) (rep (M (pc os pw cj) i) (M (pc os pw cj) i w w) (q/2))=_
    rw[Dy hg hw,hg.ac hu hw (hg.rep hw _),<-hg.yS hw,show 2*(q/2)+1=q by omega,he]
   first|omega|(simp only;omega)
  apply AW.skip;apply BC;refine Dz (EE os pw cj h i hi w w hw hw) ?_;apply rQ;simp-dsimp-implicitDefEqProofs(maxSteps:=800000) (disch:=omega)only[go_sem,A6,ints,AP,A5,rows,vi];refine⟨(q/2,u,M (pc os pw cj) i w w),?_,λ_ _ h=>h,?_,?_⟩
  ·simp(disch:=omega) [AN,AO,sl,A5,AR,ints,rows,A6,vi]<;>omega
  ·rw[Int.tmod_eq_emod_of_nonneg A0]at h2;refine⟨A9,hu,hg.cl hw hw,?_⟩;show M (pc os pw cj) i u (rep (M (pc os pw cj) i) (M (pc os pw cj) i w w) (q/2))=_
   rw[Dy hg hw,show 2*(q/2)=q by omega,he]
  first|omega|(simp only;omega)
 apply AW.exit;apply B2;refine M3 ?_;refine AH ?_;obtain rfl:q=0:=A0
 rw[<-he,show rep (M (pc os pw cj) i) w 0=z0 from rfl,hg.r1 hu];rfl
theorem ET{cX n ops y s s1 K}(q:AW cX Tryz.prog y s1 K)(e:BV ops s s1:=by intro N hN;(try simp-dsimp-implicitDefEqProofs(maxSteps:=800000) (disch:=omega)only[go_sem,A6,DT,AL,BN,ints,A5,rows,vi]);exact hN):BU cX n ops y s K:=BY q e
theorem FJ{cX n ops y s s1 K}(q:AW cX Tryz.prog y s1 K)(e:BV ops s s1:=by intro N hN;(try simp-dsimp-implicitDefEqProofs(maxSteps:=800000) (disch:=omega)only[go_sem,A6,ints,A5,rows,vi]);exact hN):BU cX n ops y s K:=BY q e
theorem HU{cX n ops y s s1 K}(q:AW cX Tryz.prog y s1 K)(e:BV ops s s1:=by intro N hN;(try simp-dsimp-implicitDefEqProofs(maxSteps:=800000) (disch:=omega)only[go_sem,vi]);exact hN):BU cX n ops y s K:=BY q e
theorem UQ{cX n ops s}{K:Exit->St->Prop}{Q:Prop}(q:Q)(e:Q->DW env Tryz.prog ops s.nx ops 0 ⟨s.t,s.H,s.nx+ops.length⟩ (K .normal):=by intro q;(try simp-dsimp-implicitDefEqProofs(maxSteps:=800000) (disch:=omega)only[go_sem,A6,DT,AL,BN,ints,A5,rows,vi]);exact q):AW cX Tryz.prog (.region n ops.toArray false) s K:=rQ (e q)
theorem UR{P Q:Prop}(q:Q)(e:Q->P:=by intro q;(try simp-dsimp-implicitDefEqProofs(maxSteps:=800000) (disch:=omega)only[go_sem,A6,DT,AL,BN,ints,A5,rows,vi]);exact q):P:=e q
theorem c9{cX n ops y s s1 K}(q:AW cX Tryz.prog y s1 K)(e:BV ops s s1:=by intro N hN;(try simp-dsimp-implicitDefEqProofs(maxSteps:=800000) (disch:=omega)only[go_sem,A6,AL,BN,ints,AP,A5,rows,vi]);exact hN):BU cX n ops y s K:=BY q e
theorem cA{cX n ops y s s1 K}(q:AW cX Tryz.prog y s1 K)(e:BV ops s s1:=by intro N hN;(try simp-dsimp-implicitDefEqProofs(maxSteps:=800000) (disch:=omega)only[go_sem,A6,AL,BN,ints,A5,rows,vi]);exact hN):BU cX n ops y s K:=BY q e
theorem iG{P f nx H Zz r}{K:Nat->HP->AV->Prop}{Q:Prop}(x:BI P f Zz r)(q:Q)(e:Q->K nx H r:=by intro q;(try simp-dsimp-implicitDefEqProofs(maxSteps:=800000) (disch:=omega)only[go_sem,A6,DT,AL,BN,ints,A5,rows,vi]);exact q):AC P f nx H Zz K:=AC.pure (.of x) (e q)
theorem cB{cX n ops y s s1 K}(q:AW cX Tryz.prog y s1 K)(e:BV ops s s1:=by intro N hN;(try simp-dsimp-implicitDefEqProofs(maxSteps:=800000) (disch:=omega)only[go_sem,ints,A5,vi]);exact hN):BU cX n ops y s K:=BY q e
theorem iH{cX n ops y s s1 K}(q:AW cX Tryz.prog y s1 K)(e:BV ops s s1:=by intro N hN;(try simp-dsimp-implicitDefEqProofs(maxSteps:=800000) (disch:=omega)only[go_sem,AL,ints,A5,vi]);exact hN):BU cX n ops y s K:=BY q e
theorem cD{cX n ops s}{K:Exit->St->Prop}{Q:Prop}(q:Q)(e:Q->DW env Tryz.prog ops s.nx ops 0 ⟨s.t,s.H,s.nx+ops.length⟩ (K .normal):=by intro q;(try simp-dsimp-implicitDefEqProofs(maxSteps:=800000) (disch:=omega)only[go_sem,A6,ints,A5,rows,vi]);exact q):AW cX Tryz.prog (.region n ops.toArray false) s K:=rQ (e q)
theorem iI{cX n ops y s s1 K}(q:AW cX Tryz.prog y s1 K)(e:BV ops s s1:=by intro N hN;(try simp-dsimp-implicitDefEqProofs(maxSteps:=800000) (disch:=omega)only[go_sem,ints,AP,A5,vi]);exact hN):BU cX n ops y s K:=BY q e
theorem cE{cX n ops y s s1 K}(q:AW cX Tryz.prog y s1 K)(e:BV ops s s1:=by intro N hN;(try simp-dsimp-implicitDefEqProofs(maxSteps:=800000) (disch:=omega)only[go_sem,AL,ints,AP,A5,vi]);exact hN):BU cX n ops y s K:=BY q e
theorem WR{P Q:Prop}(q:Q)(e:Q->P:=by intro q;(try simp-dsimp-implicitDefEqProofs(maxSteps:=800000) (disch:=omega)only[go_sem,A6,ints,A5,rows,vi]);exact q):P:=e q
theorem cF{P Q:Prop}(q:Q)(e:Q->P:=by intro q;(try simp-dsimp-implicitDefEqProofs(maxSteps:=800000) (disch:=omega)only[go_sem,A6,AL,BN,ints,AP,A5,rows,vi]);exact q):P:=e q
theorem cG{cX n ops s}{K:Exit->St->Prop}{Q:Prop}(q:Q)(e:Q->DW env Tryz.prog ops s.nx ops 0 ⟨s.t,s.H,s.nx+ops.length⟩ (K .normal):=by intro q;(try simp-dsimp-implicitDefEqProofs(maxSteps:=800000) (disch:=omega)only[go_sem,A6,AL,BN,ints,A5,rows,vi]);exact q):AW cX Tryz.prog (.region n ops.toArray false) s K:=rQ (e q)
theorem Ea{cX n ops y s s1 K f Zz r}(x:BI Tryz.prog f Zz r)(q:AW cX Tryz.prog y s1 K)(e:BI Tryz.prog f Zz r->BV ops s s1:=by intro x N hN;(try simp-dsimp-implicitDefEqProofs(maxSteps:=800000) (disch:=omega)only[go_sem,ints,AP,A5,vi]);refine AC.pure (.of x) ?_;(try simp-dsimp-implicitDefEqProofs(maxSteps:=800000) (disch:=omega)only[go_sem,ints,AP,A5,vi]);exact hN):BU cX n ops y s K:=BY q (e x)
theorem Eb{P Q:Prop}(q:Q)(e:Q->P:=by intro q;(try simp-dsimp-implicitDefEqProofs(maxSteps:=800000) (disch:=omega)only[go_sem,List.drop_nil,List.drop_succ_cons,List.drop_zero,List.take_nil,List.take_succ_cons,List.take_zero,A6,AL,BN,BW,BE,BF,ints,AP,A5,rows,vi,AR]);exact q):P:=e q
theorem rK{P Q:Prop}(q:Q)(e:Q->P:=by intro q;(try simp-dsimp-implicitDefEqProofs(maxSteps:=800000) (disch:=omega)only[go_sem,ints,AP,A5,vi]);exact q):P:=e q
end Go.Proofs.YtgknbnkmilddhaaGreat

namespace Go.Proofs.YtgknbnkmilddhaaGreat
section
variable{os:List Int}{pw:List (List Int)}{cj:List (List (List Int))}
theorem T.rL{i:Nat}{f g:V}(hf:T (pc os pw cj) i f)(hg:T (pc os pw cj) i g):vec os.length f=vec os.length g↔f=g:=by
  constructor
  · intro h;funext k
    by_cases e:k<os.length
    · exact A0R.1 h k e
    rw[hf.t k (by have:(pc os pw cj).n=os.length:=rfl;omega),hg.t k (by have:(pc os pw cj).n=os.length:=rfl;omega)]
  intro h;rw[h]
theorem HV{i:Nat}{f g:V}(hn:os.length<=1048576)(hf:T (pc os pw cj) i f)(hg:T (pc os pw cj) i g):BI Tryz.prog 214 [vi os.length f,vi os.length g] (.b (tf (f=g))):=by
  have:=JM (vec os.length f) (vec os.length g) (by rw[BL];omega) (by rw[BL];omega);rw[E3,E3]at this;rwa [bQ (hf.rL hg)]at this
theorem TG(h:AF os pw cj)(i:Nat)(hi:i<os.length)(hg:JU (T (pc os pw cj) (i+1)) (M (pc os pw cj) (i+1)))(a:V)(ha:T (pc os pw cj) (i+1) a)(k:Int)(h0:0<=k)(hk:k<=1099511627776):
    BI Tryz.prog 181 [AP os pw cj,.i .i64 ((i:Int)+1),vi os.length a,.i .i64 k] (vi os.length (rep (M (pc os pw cj) (i+1)) a k.toNat)):=by
  have:=HT os pw cj h (i+1) hi hg a ha k.toNat A0;rw[Int.toNat_of_nonneg h0]at this;rwa [Int.natCast_add]at this
end
theorem YW(n j:Nat)(hn:n<=1048576)(hj:j<n):BI Tryz.prog 116 [.i .i64 n,.i .i64 j] (vi n (un j)):=by
 refine B5 AA Tryz.func116 rfl A7 Tryz.ntmps116 Tryz.results116 ((J8 _ _)) (λnx cX=>?_)
 refine B8 ?_;refine B8 ?_;refine B8 ?_;refine B8 ?_;refine AH ?_;refine Vw.vi ?_
 rw[A4,CO,K1 hj];rfl
def FO(p:Prop)(r:AV):Prop:=∃k l a b:Int,r= .g [.i .i64 k,.i .i64 l,.i .i64 a,.i .i64 b]/\(k=0↔p)
theorem FO.bad{p:Prop}{k l a b:Int}(hk:k≠0)(h:¬p):FO p (.g [.i .i64 k,.i .i64 l,.i .i64 a,.i .i64 b]):=⟨k,l,a,b,rfl,⟨λe=>absurd e hk,λe=>absurd e h⟩⟩
theorem FO.A6B{p:Prop}{l a b:Int}(h:p):FO p (.g [.i .i64 0,.i .i64 l,.i .i64 a,.i .i64 b]):=⟨0,l,a,b,rfl,⟨λ_=>h,λ_=>rfl⟩⟩
set_option maxRecDepth 20000 in
set_option maxHeartbeats 2000000 in
theorem WS(os:List Int)(pw:List (List Int))(cj:List (List (List Int)))(h:AF os pw cj)(i:Nat)(hi:i<os.length)(hg:JU (T (pc os pw cj) (i+1)) (M (pc os pw cj) (i+1)))(nx:Nat)(H:HP):AC Tryz.prog 237 nx H [AP os pw cj,.i .i64 i] (λBB H' r=>H'=H/\FO (Dk (pc os pw cj) i) r):=by
 have hv:=h.val
 have FU:=h.1.1
 have YN:=h.1.2.1
 have JN:=h.1.2.2
 have c7:=(h.2.2.2 i hi).2.1
 have e2:AV.v (pw.getD i []).length (List.map (AV.i IntKind.i64) (pw.getD i []))=vi os.length ((pc os pw cj).pw i):=D5 (h.pwl hi)
 have im:=λ{a:V}=>Y6 (P:=pc os pw cj) (i:=i) hv (λ_ _=>gH hv) a
 refine BA AA Tryz.func237 rfl A7 Tryz.ntmps237 Tryz.results237 (λCQ cX=>?_)
 refine ES ?_;refine AK 2 nx _ rfl ((A1 _ _ A0).trans (A4 _ _ _)) ?_
 refine AG ?_;refine ES ?_;refine ES ?_;refine AW.seq λN1 B2=>?_;refine ES ?_;apply AW.block;refine A8 (α:=Nat) (λx=>sl 188 [(1,.i .i64 i),(2,A5 os pw cj),(4,.q (nx+1) 0),(5,.i .i64 os.length),(6,.i .i64 i),(7,.i .i64 x)]) (λ_=>AT H (nx+1) (some [.i .i64 0,.i .i64 0,.i .i64 0,.i .i64 0])) (λx m=>(i+1<=x/\x<=os.length)/\∀j,i<j->j<x->rep (M (pc os pw cj) (i+1)) ((pc os pw cj).cj i j) ((pc os pw cj).o j).toNat=E2 (pc os pw cj) (M (pc os pw cj) (i+1)) i ((pc os pw cj).pw j)) (λx=>os.length-x) (i+1) ?_ ?_ (by have:=CQ nx (Nat.le_refl _);intro d cs hd;simp only[AT]at hd ⊢;grind) ?_
 ·exact⟨⟨Nat.le_refl _,hi⟩,by intro j h1 h2;omega⟩
 ·simp(disch:=omega) [AN,AO,sl,A5,ints,rows,A6,vi]
 skip
 rintro j m ⟨⟨Cq,u9⟩,hI⟩
 simp only[A5];refine AG ?_;refine AW.seq λN2 B7=>?_;refine ES ?_;refine AW.cond rfl ?_ ?_<;>intro h1<;>try simp only[cn]at h1
 ·have ej:((j:Int)-i-1).toNat=j-i-1:=A0;have e1:AV.v ((cj.getD i []).getD (j-i-1) []).length (List.map (AV.i IntKind.i64) ((cj.getD i []).getD (j-i-1) []))=vi os.length ((pc os pw cj).cj i j):=D5 (h.An A0 A0);have e3:AV.v (pw.getD j []).length (List.map (AV.i IntKind.i64) (pw.getD j []))=vi os.length ((pc os pw cj).pw j):=D5 (h.pwl A0);have Nt:=h.o7 (show j<os.length by omega);have A6C:(pc os pw cj).o j=os.getD j 0:=rfl;have tj:=hv.cj i j A0 (show j<os.length by omega);have tp:=(hv.pw j (show j<os.length by omega)).mono hv (show i+1<=j+1 by omega);apply AW.skip;apply B7;refine AW.seq λN3 BC=>?_;apply AW.block;refine AW.seq λN hN=>?_;refine AM AA A7 21 A7 ?_
  refine Dw ej ?_;rw[e1];refine⟨_,.of (TG h i hi hg _ tj _ A0 A0),?_⟩;refine HG ?_
  apply hN;refine AW.seq λN hN=>?_;refine AM AA A7 11 A7 ?_
  refine nQ ?_;rw[e3];refine⟨_,.of (FC os pw cj h i hi _ tp),?_⟩;refine HG ?_
  refine⟨_,.of (HV A0 (hg.rep tj _) im),?_⟩;refine HG ?_
  apply hN;refine AW.cond rfl ?_ ?_<;>intro h2<;>try simp only[cn]at h2
  ·refine ES ?_;refine AH ?_;refine⟨H,by have:=CQ (nx+1) A0;intro d cs hd;simp only[AT];grind,rfl,?_⟩
   exact FO.bad A0 (λq=>h2 (q.pw j A0 (show j<os.length by omega)))
  apply AW.skip;apply BC;refine SE ?_;refine⟨j+1,?_,λ_ _ h=>h,?_,?_⟩
  ·simp(disch:=omega) [AN,AO,sl,A5,AR,ints,rows,A6,vi]<;>omega
  ·refine⟨A0,λk q1 q2=>?_⟩;by_cases e:k=j
   ·subst e;exact h2
   exact hI k q1 A0
  first|omega|(simp only;omega)
 have hI1:∀j,i<j->j<os.length->rep (M (pc os pw cj) (i+1)) ((pc os pw cj).cj i j) ((pc os pw cj).o j).toNat=E2 (pc os pw cj) (M (pc os pw cj) (i+1)) i ((pc os pw cj).pw j):=λk q1 q2=>hI k q1 A0
 apply AW.exit;apply B2;refine AW.seq λN4 CF=>?_;refine ES ?_;apply AW.block;refine A8 (α:=Nat) (λx=>sl 188 [(1,.i .i64 i),(2,A5 os pw cj),(4,.q (nx+1) 0),(5,.i .i64 os.length),(6,.i .i64 i),(9,.i .i64 x)]) (λ_=>AT H (nx+1) (some [.i .i64 0,.i .i64 0,.i .i64 0,.i .i64 0])) (λx m=>(i+1<=x/\x<=os.length)/\∀j k,i<j->j<x->j<k->k<os.length->M (pc os pw cj) (i+1) ((pc os pw cj).cj i k) ((pc os pw cj).cj i j)=M (pc os pw cj) (i+1) ((pc os pw cj).cj i j) (E2 (pc os pw cj) (M (pc os pw cj) (i+1)) i ((pc os pw cj).cj j k))) (λx=>os.length-x) (i+1) ?_ ?_ (λ_ _ h=>h) ?_
 ·exact⟨⟨Nat.le_refl _,hi⟩,by intro j k h1 h2;omega⟩
 ·simp(disch:=omega) [AN,AO,sl,A5,ints,rows,A6,vi]
 skip
 rintro j m ⟨⟨Cq,u9⟩,hI⟩
 simp only[A5];refine AG ?_;refine AW.seq λN5 DL=>?_;refine ES ?_;refine AW.cond rfl ?_ ?_<;>intro h3<;>try simp only[cn]at h3
 ·apply AW.skip;apply DL;refine AW.seq λN6 FR=>?_;apply AW.block;refine ES ?_;apply AW.block;refine A8 (α:=Nat) (λx=>sl 188 [(1,.i .i64 i),(2,A5 os pw cj),(4,.q (nx+1) 0),(5,.i .i64 os.length),(6,.i .i64 i),(9,.i .i64 j),(10,.i .i64 x)]) (λ_=>AT H (nx+1) (some [.i .i64 0,.i .i64 0,.i .i64 0,.i .i64 0])) (λx m=>(j+1<=x/\x<=os.length)/\∀k,j<k->k<x->M (pc os pw cj) (i+1) ((pc os pw cj).cj i k) ((pc os pw cj).cj i j)=M (pc os pw cj) (i+1) ((pc os pw cj).cj i j) (E2 (pc os pw cj) (M (pc os pw cj) (i+1)) i ((pc os pw cj).cj j k))) (λx=>os.length-x) (j+1) ?_ ?_ (λ_ _ h=>h) ?_
  ·exact⟨⟨Nat.le_refl _,A0⟩,by intro k h1 h2;omega⟩
  ·simp(disch:=omega) [AN,AO,sl,A5,ints,rows,A6,vi]
  skip
  rintro k m ⟨⟨FH,DN⟩,hK⟩;simp only[A5];refine AG ?_;refine AW.seq λN7 MV=>?_;refine ES ?_;refine AW.cond rfl ?_ ?_<;>intro h4<;>try simp only[cn]at h4
  ·have ej:((j:Int)-i-1).toNat=j-i-1:=A0;have ek:((k:Int)-i-1).toNat=k-i-1:=A0;have ejk:((k:Int)-j-1).toNat=k-j-1:=A0;have e1:AV.v ((cj.getD i []).getD (j-i-1) []).length (List.map (AV.i IntKind.i64) ((cj.getD i []).getD (j-i-1) []))=vi os.length ((pc os pw cj).cj i j):=D5 (h.An A0 A0);have e3:AV.v ((cj.getD i []).getD (k-i-1) []).length (List.map (AV.i IntKind.i64) ((cj.getD i []).getD (k-i-1) []))=vi os.length ((pc os pw cj).cj i k):=D5 (h.An A0 A0);have e4:AV.v ((cj.getD j []).getD (k-j-1) []).length (List.map (AV.i IntKind.i64) ((cj.getD j []).getD (k-j-1) []))=vi os.length ((pc os pw cj).cj j k):=D5 (h.An A0 A0);have AB7:=(h.2.2.2 j A0).2.1;have tj:=hv.cj i j A0 (show j<os.length by omega);have tk:=hv.cj i k A0 (show k<os.length by omega);have tjk:=(hv.cj j k A0 (show k<os.length by omega)).mono hv (show i+1<=j+1 by omega);apply AW.skip;apply MV;refine AW.seq λN8 OB=>?_;apply AW.block;refine AW.seq λN hN=>?_;refine AM AA A7 24 A7 ?_
   (try simp-dsimp-implicitDefEqProofs(maxSteps:=800000) (disch:=omega)only[go_sem,List.drop_nil,List.drop_succ_cons,List.drop_zero,List.take_nil,List.take_succ_cons,List.take_zero,A6,DT,AL,BN,BW,BE,BF,ints,AP,A5,rows,vi,AR,ej,ek,e1,e3]);apply hN;refine AW.seq λN hN=>?_;refine AM AA A7 15 A7 ?_
   refine Dw ejk ?_;rw[e4];refine⟨_,.of (FC os pw cj h i hi _ tjk),?_⟩;refine HG ?_
   apply hN;refine AW.seq λN hN=>?_;refine AM AA A7 14 A7 ?_
   refine nQ ?_;refine⟨_,.of (FI os pw cj h i hi _ _ tk tj),?_⟩;refine HG ?_
   refine⟨_,.of (FI os pw cj h i hi _ _ tj im),?_⟩;refine HG ?_
   refine⟨_,.of (HV A0 (hg.cl tk tj) (hg.cl tj im)),?_⟩;refine HG ?_
   apply hN;refine AW.cond rfl ?_ ?_<;>intro h5<;>try simp only[cn]at h5
   ·refine ES ?_;refine AH ?_;refine⟨H,by have:=CQ (nx+1) A0;intro d cs hd;simp only[AT];grind,rfl,?_⟩
    exact FO.bad A0 (λq=>h5 (q.cj j k A0 A0 (show k<os.length by omega)))
   apply AW.skip;apply OB;refine SE ?_;refine⟨k+1,?_,λ_ _ h=>h,?_,?_⟩
   ·simp(disch:=omega) [AN,AO,sl,A5,AR,ints,rows,A6,vi]<;>omega
   ·refine⟨A0,λt q1 q2=>?_⟩;by_cases e:t=k
    ·subst e;exact h5
    exact hK t q1 A0
   first|omega|(simp only;omega)
  apply AW.exit;apply FR;refine SE ?_;refine⟨j+1,?_,λ_ _ h=>h,?_,?_⟩
  ·simp(disch:=omega) [AN,AO,sl,A5,AR,ints,rows,A6,vi]<;>omega
  ·refine⟨A0,λt k' q1 q2 q3 q4=>?_⟩;by_cases e:t=j
   ·subst e;exact hK k' q3 A0
   exact hI t k' q1 A0 q3 q4
  first|omega|(simp only;omega)
 have Ao:∀j k,i<j->j<k->k<os.length->M (pc os pw cj) (i+1) ((pc os pw cj).cj i k) ((pc os pw cj).cj i j)=M (pc os pw cj) (i+1) ((pc os pw cj).cj i j) (E2 (pc os pw cj) (M (pc os pw cj) (i+1)) i ((pc os pw cj).cj j k)):=λt k q1 q2 q3=>hI t k q1 A0 q2 q3
 apply AW.exit;apply CF;refine sQ λN hN=>?_;simp-dsimp-implicitDefEqProofs(maxSteps:=800000) (disch:=omega)only[go_sem,A6,DT,AL,BN,ints,AP,A5,rows,vi,e2];apply hN;refine AW.seq λN9 SC=>?_;refine sQ λN hN=>?_;refine HG ?_;refine kB (FC os pw cj h i hi _ (hv.pw i hi)) ?_
 refine kB (HV A0 im (hv.pw i hi)) ?_
 apply hN;refine AW.cond rfl ?_ ?_<;>intro h6<;>try simp only[cn]at h6
 ·refine ES ?_;refine AH ?_;refine⟨H,by have:=CQ (nx+1) A0;intro d cs hd;simp only[AT];grind,rfl,?_⟩
  exact FO.bad A0 (λq=>h6 q.fx)
 apply AW.skip;apply SC;refine AW.seq λAm IQ=>?_;refine ES ?_;apply AW.block;refine A8 (α:=Nat) (λx=>sl 188 [(1,.i .i64 i),(2,A5 os pw cj),(4,.q (nx+1) 0),(5,.i .i64 os.length),(6,.i .i64 i),(14,vi os.length ((pc os pw cj).pw i)),(15,.i .i64 x)]) (λ_=>AT H (nx+1) (some [.i .i64 0,.i .i64 0,.i .i64 0,.i .i64 0])) (λx m=>(i+1<=x/\x<=os.length)/\∀j,i<j->j<x->M (pc os pw cj) (i+1) ((pc os pw cj).pw i) (DG (E2 (pc os pw cj) (M (pc os pw cj) (i+1)) i) ((pc os pw cj).o i).toNat (un j))=M (pc os pw cj) (i+1) (un j) ((pc os pw cj).pw i)) (λx=>os.length-x) (i+1) ?_ ?_ (λ_ _ h=>h) ?_
 ·exact⟨⟨Nat.le_refl _,hi⟩,by intro j h1 h2;omega⟩
 ·simp(disch:=omega) [AN,AO,sl,A5,ints,rows,A6,vi]
 skip
 rintro j m ⟨⟨Cq,u9⟩,hI⟩
 simp only[A5,vi];refine AG ?_;refine AW.seq λDu JO=>?_;refine ES ?_;refine AW.cond rfl ?_ ?_<;>intro h7<;>try simp only[cn]at h7
 ·have tu:=nM hv (show i+1<=j by omega) (show j<os.length by omega);have bM:=h.o7 hi;have A0S:(pc os pw cj).o i=os.getD i 0:=rfl;apply AW.skip;apply JO;refine AW.seq λOt PA=>?_;apply AW.block;refine Dx (YW os.length j A0 A0) ?_;refine ES ?_;refine AW.seq λN13 RG=>?_;refine ES ?_;apply AW.block;refine A8 (α:=Nat×V) (λx=>sl 188 [(1,.i .i64 i),(2,A5 os pw cj),(4,.q (nx+1) 0),(5,.i .i64 os.length),(6,.i .i64 i),(14,vi os.length ((pc os pw cj).pw i)),(15,.i .i64 j),(16,vi os.length (un j)),(17,vi os.length x.2),(18,.i .i64 x.1)]) (λ_=>AT H (nx+1) (some [.i .i64 0,.i .i64 0,.i .i64 0,.i .i64 0])) (λx m=>x.1<=(os.getD i 0).toNat/\T (pc os pw cj) (i+1) x.2/\x.2=DG (E2 (pc os pw cj) (M (pc os pw cj) (i+1)) i) x.1 (un j)) (λx=>(os.getD i 0).toNat-x.1) ((0,un j)) ?_ ?_ (λ_ _ h=>h) ?_
  ·exact⟨Nat.zero_le _,tu,rfl⟩
  ·simp(disch:=omega) [AN,AO,sl,A5,ints,rows,A6,vi]
  skip
  rintro⟨q,w⟩ m ⟨hq,hw,he⟩;dsimp only at hq hw he;simp only[A5,vi];refine AG ?_;refine AW.seq λN14 RH=>?_;refine ES ?_;refine AW.cond rfl ?_ ?_<;>intro h8<;>try simp only[cn]at h8
  ·apply AW.skip;apply RH;refine AW.seq λN15 kC=>?_;apply AW.block;refine SE ?_;refine kB (FC os pw cj h i hi _ hw) ?_
   apply kC;refine SE ?_;refine⟨(q+1,E2 (pc os pw cj) (M (pc os pw cj) (i+1)) i w),?_,λ_ _ h=>h,?_,?_⟩
   ·simp(disch:=omega) [AN,AO,sl,A5,AR,ints,rows,A6,vi]<;>omega
   ·exact⟨A9,im,by rw[he];rfl⟩
   first|omega|(simp only;omega)
  obtain rfl:q=(os.getD i 0).toNat:=A0;apply AW.exit;apply RG;refine AW.seq λN hN=>?_;refine AM AA A7 14 A7 ?_
  refine nQ ?_;refine⟨_,.of (FI os pw cj h i hi _ _ (hv.pw i hi) hw),?_⟩;refine HG ?_
  refine⟨_,.of (FI os pw cj h i hi _ _ tu (hv.pw i hi)),?_⟩;refine HG ?_
  refine⟨_,.of (HV A0 (hg.cl (hv.pw i hi) hw) (hg.cl tu (hv.pw i hi))),?_⟩;refine HG ?_
  apply hN;refine AW.cond rfl ?_ ?_<;>intro h9<;>try simp only[cn]at h9
  ·refine ES ?_;refine AH ?_;refine⟨H,by have:=CQ (nx+1) A0;intro d cs hd;simp only[AT];grind,rfl,?_⟩
   rw[he]at h9;exact FO.bad A0 (λq=>h9 (q.inn j A0 (show j<os.length by omega)))
  apply AW.skip;apply PA;refine SE ?_;refine⟨j+1,?_,λ_ _ h=>h,?_,?_⟩
  ·simp(disch:=omega) [AN,AO,sl,A5,AR,ints,rows,A6,vi]<;>omega
  ·refine⟨A0,λk q1 q2=>?_⟩;by_cases e:k=j
   ·subst e;rw[he]at h9;exact h9
   exact hI k q1 A0
  first|omega|(simp only;omega)
 apply AW.exit;apply IQ;refine ES ?_;refine AH ?_;refine⟨H,by have:=CQ (nx+1) A0;intro d cs hd;simp only[AT];grind,rfl,?_⟩
 exact FO.A6B ⟨λj q1 q2=>hI1 j q1 q2,λj k q1 q2 q3=>Ao j k q1 q2 q3,h6,λj q1 q2=>hI j q1 (by have:j<os.length:=q2;omega)⟩
end Go.Proofs.YtgknbnkmilddhaaGreat

namespace Go.Proofs.YtgknbnkmilddhaaGreat
theorem WT(os:List Int)(pw:List (List Int))(cj:List (List (List Int)))(h:AF os pw cj)(nx:Nat)(H:HP):AC Tryz.prog 177 nx H [AP os pw cj] (λBB H' r=>H'=H/\FO (CG (pc os pw cj) 0) r):=by
 have hv:=h.val
 have FU:=h.1.1
 refine BA AA Tryz.func177 rfl A7 Tryz.ntmps177 Tryz.results177 (λCQ cX=>?_)
 refine bX ?_;refine AW.seq λN1 B2=>?_;refine AK 1 nx _ rfl ((A1 _ _ A0).trans (A4 _ _ _)) ?_
 refine AG ?_;refine bX ?_;apply AW.block;refine A8 (α:=Nat) (λx=>sl 21 [(1,A5 os pw cj),(2,.q (nx+1) 0),(3,.i .i64 ((x:Int)-1))]) (λ_=>AT H (nx+1) (some [.i .i64 0,.i .i64 0,.i .i64 0,.i .i64 0])) (λx m=>(x<=os.length/\nx+2<=m)/\CG (pc os pw cj) x) (λx=>x) (os.length) ?_ ?_ (by have:=CQ nx (Nat.le_refl _);intro d cs hd;simp only[AT]at hd ⊢;grind) ?_
 ·exact⟨⟨Nat.le_refl _,A9⟩,λi h1 h2=>absurd h2 (by have:(pc os pw cj).n=os.length:=rfl;omega)⟩
 ·simp(disch:=omega) [AN,AO,sl,A5,ints,rows,A6]
 skip
 rintro x m ⟨⟨hx,hm⟩,hI⟩
 simp only[A5];refine AG ?_;refine AW.seq λN2 B7=>?_;refine bX ?_;refine AW.cond rfl ?_ ?_<;>intro h1<;>try simp only[cn]at h1
 ·obtain⟨i,rfl⟩:∃i,x=i+1:=⟨x-1,A0⟩;rw[show((i+1:Nat):Int)-1=i by omega];apply AW.skip;apply B7;refine AW.seq λN3 BC=>?_;apply AW.block;refine sQ λN hN=>?_;refine k8 ?_;refine(WS os pw cj h i A0 (C0 hv hI) _ _).AS ?_
  rintro Us H1 r1 iJ ⟨rfl,k,l,a,b,rfl,hk⟩;refine k8 ?_
  apply hN;refine bX ?_;refine AW.cond rfl ?_ ?_<;>intro h2<;>try simp only[cn]at h2
  ·refine bX ?_;refine AH ?_;refine⟨H,by have q1:=CQ (nx+1) A0;have q2:=CQ (m+2+3) A0;intro d cs hd;simp only[AT];grind,rfl,FO.bad h2 (λq=>h2 (hk.2 (q i (Nat.zero_le _) (show i<os.length by omega))))⟩
  apply AW.skip;apply BC;apply rQ;simp-dsimp-implicitDefEqProofs(maxSteps:=800000) (disch:=omega)only[go_sem,A6,ints,AP,A5,rows];refine⟨i,?_,by have q1:=CQ (nx+1) A0;have q2:=CQ (m+2+3) A0;intro d cs hd;simp only[AT]at hd ⊢;grind,?_,?_⟩
  ·simp(disch:=omega) [AN,AO,sl,AR,ints,rows,A6,AP,A5,ints,rows,A6,AR]<;>omega
  ·refine⟨⟨A9,A9⟩,λt q1 q2=>?_⟩;by_cases e:t=i
   ·subst e;exact hk.1 h2
   exact hI t A0 q2
  first|omega|(simp only;omega)
 apply AW.exit;apply B2;refine bX ?_;refine AH ?_;obtain rfl:x=0:=A0
 exact⟨H,by have q1:=CQ (nx+1) A0;intro d cs hd;simp only[AT];grind,rfl,FO.A6B hI⟩
theorem PB(os:List Int)(pw:List (List Int))(cj:List (List (List Int)))(h:AF os pw cj):BI Tryz.prog 111 [AP os pw cj] (.b (tf (CG (pc os pw cj) 0))):=by
 refine AD AA Tryz.func111 rfl A7 Tryz.ntmps111 Tryz.results111 (.b _) (λnx cX=>?_)
 refine bX ?_;refine sQ λN hN=>?_;refine k8 ?_;refine(WT os pw cj h _ _).AS ?_
 rintro Us H1 r1 iJ ⟨rfl,k,l,a,b,rfl,hk⟩
 refine k8 ?_
 apply hN;refine AH ?_;exact bt (by rw[<-bQ hk];by_cases q:k=0<;>simp[q,tf])
theorem WU(os:List Int)(pw:List (List Int))(cj:List (List (List Int)))(hl:GB os pw cj):BI Tryz.prog 52 [AP os pw cj] (.b (tf (AF os pw cj/\CG (pc os pw cj) 0))):=by
 refine AD AA Tryz.func52 rfl A7 Tryz.ntmps52 Tryz.results52 (.b _) (λnx cX=>?_)
 refine sQ λN hN=>?_;simp-dsimp-implicitDefEqProofs(maxSteps:=800000) (disch:=omega)only[go_sem,A6,ints,AP,rows];apply hN;refine sQ λN hN=>?_;refine bZ ?_;refine rG (CS os pw cj hl) ?_
 refine CH.mk' (λh1=>?_) (λh1=>?_)
 ·try simp only[cn]at h1
  refine bZ ?_
  refine rG (PB os pw cj h1) ?_
  apply hN;apply AW.ret;simp-dsimp-implicitDefEqProofs(disch:=omega)only[go_sem];all_goals exact bt (bQ ⟨λq=>⟨h1,q⟩,λq=>q.2⟩)
 try simp only[cn]at h1
 refine bZ ?_
 apply hN;apply AW.ret;simp-dsimp-implicitDefEqProofs(disch:=omega)only[go_sem];all_goals exact bt (C8 (λq=>h1 q.1)).symm
end Go.Proofs.YtgknbnkmilddhaaGreat
