import Derived.Test.YtghmeeifjeafmaaGreatZ29
import Derived.Test.YtghmeeifjeafmaaGreatZ30
set_option linter.unusedVariables false
set_option linter.unusedSimpArgs false
namespace Go.Proofs.YtghmeeifjeafmaaGreat
theorem AW.Vi{cX:Ctx}{P:Program}{c:Code}{s:St}{K:Exit→St→Prop}{a b:Nat}(k:Nat)(L:AV)(cs:List AV)(hk:s.t[k]? =some L)(hL:LC s.H a b L cs)
    (hs:AW cX P c ⟨s.t.set k (.v cs.length cs),dl s.H L,s.nx⟩ K):AW cX P c s K:=by
  rcases hL with ⟨rfl,rfl⟩|⟨id,rfl,hc,_,_⟩
  · refine AW.fz (s':=⟨s.t.set k (.v 0 []),s.H,s.nx⟩) ⟨YP hk .nl,?_,Nat.le_refl _⟩ hs;intro id CX h;exact⟨CX,h,rfl,fun q x y h1 h2=>by rw[h1]at h2;cases h2;exact .refl _⟩
  exact AW.freeze k id cs.length cs hk hc rfl hs
structure P0(N:Nat)(os:List Int)(X:List (List Int))(Y:List (List (List Int))):Prop where
  o:os.length≤N
  p:X.length=os.length
  c:Y.length=os.length
  r:∀k,k<os.length→(Y.getD k []).length=os.length-1-k
  pl:∀x∈X,x.length≤6*N
  cl:∀y∈Y,∀x∈y,x.length≤6*N
  ob:∀x∈os,-1000≤x∧x≤1000
theorem P0.more{N M:Nat}{os:List Int}{X:List (List Int)}{Y:List (List (List Int))}(h:P0 N os X Y)(hm:N≤M):P0 M os X Y:=⟨by have:=h.o;omega,h.p,h.c,h.r,fun x hx=>by have:=h.pl x hx;omega,fun y hy x hx=>by have:=h.cl y hy x hx;omega,h.ob⟩
theorem P0.nil:P0 0 [] [] []:=⟨by simp,rfl,rfl,by simp,by simp,by simp,by simp⟩
theorem F7{α:Type}{p:α→Prop}{X:List α}{d:α}(h:∀x∈X,p x)(hd:p d)(k:Nat):p (X.getD k d):=by
  by_cases hk:k<X.length
  · rw[List.getD_eq_getElem?_getD,List.getElem?_eq_getElem hk];exact h _ (List.getElem_mem hk)
  rw[List.getD_eq_getElem?_getD,List.getElem?_eq_none (by omega)];exact hd
theorem P0.row{N:Nat}{os:List Int}{X:List (List Int)}{Y:List (List (List Int))}(h:P0 N os X Y)(k:Nat):(X.getD k []).length≤6*N:=F7 h.pl (by simp) k
theorem P0.Vj{N:Nat}{os:List Int}{X:List (List Int)}{Y:List (List (List Int))}(h:P0 N os X Y)(k l:Nat):((Y.getD k []).getD l []).length≤6*N:=
  F7 (p:=fun x:List Int=>x.length≤6*N) (F7 (p:=fun y:List (List Int)=>∀x∈y,x.length≤6*N) h.cl (by simp) k) (by simp) l
theorem P0.MK{N k:Nat}{os:List Int}{X:List (List Int)}{Y:List (List (List Int))}{w:List Int}(h:P0 N os X Y)(hw:w.length≤6*N):P0 N os (X.set k w) Y:=⟨h.o,by rw[List.length_set];exact h.p,h.c,h.r,TU h.pl hw,h.cl,h.ob⟩
theorem P0.Q9{N k l:Nat}{os:List Int}{X:List (List Int)}{Y:List (List (List Int))}{w:List Int}(h:P0 N os X Y)(hw:w.length≤6*N):P0 N os X (Y.set k ((Y.getD k []).set l w)):=by
  refine⟨h.o,h.p,by rw[List.length_set];exact h.c,fun j hj=>?_,h.pl,TU h.cl (TU (F7 (p:=fun y:List (List Int)=>∀x∈y,x.length≤6*N) h.cl (by simp) k) hw),h.ob⟩;by_cases e:j=k
  · subst e;have h1:=h.c;have h2:=h.r j hj;rw[show(Y.set j ((Y.getD j []).set l w)).getD j []=(Y.getD j []).set l w by simp[show j<Y.length by omega],List.length_set];exact h2
  rw[show(Y.set k ((Y.getD k []).set l w)).getD j []=Y.getD j [] by rw[List.getD_eq_getElem?_getD,List.getElem?_set_ne (by omega),←List.getD_eq_getElem?_getD]];exact h.r j hj
theorem Ck{N:Nat}{os:List Int}(h:os.length≤N)(hN:N≤64)(hb:∀x∈os,-1000≤x∧x≤1000):P0 N os (L2 os.length) (HY os.length):=by
  refine⟨h,TT _,TS _,fun k hk=>?_,fun x hx=>?_,fun y hy x hx=>?_,hb⟩
  · rw[show(HY os.length).getD k []=lY os.length k by simp[HY,hk],Q6];omega
  · rw[(List.mem_replicate.1 hx).2];simp;omega
  obtain⟨i,_,rfl⟩:=List.mem_map.1 hy;obtain⟨j,_,rfl⟩:=List.mem_map.1 hx;rw[NB];omega
theorem BU(os:List Int)(hn:os.length≤1000)(nx:Nat){H:HP}{xs:List AV}(hv:WK H xs [ints os]):AC Tryz.prog 118 nx H xs (rgK nx H os (L2 os.length) (HY os.length)):=AC.rg (FQ os hn nx) hv
theorem IL(n j:Nat)(hn:n≤1048576)(hj:j<n):BG Tryz.prog 149 [.i .i64 n,.i .i64 j] (ints (fG n j)):=(IJ n j hn hj).pure
def SQ(N:Nat)(r:AV):Prop:=∃os X Y,r=A8 os X Y∧P0 N os X Y
def Vk(N:Nat)(r:AV):Prop:=∃os X Y e,r= .t [A8 os X Y,.i .i64 e]∧P0 N os X Y
theorem zQ{H H2:HP}:Fz H H2 (.g [.nl,.nl,.nl]) (A8 [] [] []):= .g _ _ rfl fun k x y hx hy=>by
  match k,hx,hy with
  |0,hx,hy=>cases hx;cases hy;exact .nl
  |1,hx,hy=>cases hx;cases hy;exact .nl
  |2,hx,hy=>cases hx;cases hy;exact .nl
structure FD(N lo m bx:Nat)(os:List Int)(P B:AV)(bc:List AV)(X:List (List Int))(Y:List (List (List Int)))(G:HP):Prop where
  cl:G bx=some [ints os,P,B]
  rg:k6 lo m P B X Y bc G
  sh:P0 N os X Y
  lt:bx<lo
theorem FD.AD{N lo m m' bx:Nat}{os:List Int}{P B:AV}{bc:List AV}{X:List (List Int)}{Y:List (List (List Int))}{G G':HP}(h:FD N lo m bx os P B bc X Y G)(hk:∀i,i<m→G' i=G i)(Dz:lo≤m)(hm:m≤m'):FD N lo m' bx os P B bc X Y G':=
  ⟨(hk bx (by have:=h.lt;omega)).trans h.cl,h.rg.AD (fun i _ hi=>hk i hi) (Nat.le_refl _) hm,h.sh,h.lt⟩
theorem FD.JD{N lo m bx:Nat}{os:List Int}{P B:AV}{bc:List AV}{X:List (List Int)}{Y:List (List (List Int))}{G:HP}(h:FD N lo m bx os P B bc X Y G):one P=true∧one B=true:=⟨h.rg.p.one,h.rg.b.one⟩
theorem FD.MK{N lo m bx k:Nat}{os:List Int}{P B:AV}{bc:List AV}{X:List (List Int)}{Y:List (List (List Int))}{G:HP}(h:FD N lo m bx os P B bc X Y G)(hk:k<os.length):
    ∃p,P= .h p 0 os.length∧G bx=some [ints os,.h p 0 os.length,B]∧G p=some (X.map ints)∧(X.map ints).length=os.length∧(lo≤p∧p<m)∧∀(w:List Int) (m':Nat),w.length≤6*N→m≤m'→FD N lo m' bx os P B bc (X.set k w) Y (AU G p (some (B0 (X.map ints) k [ints w]))):=by
  obtain⟨h1,h2,h3,h4⟩:=h;obtain⟨p,e,g1,g2,g3⟩:=h2.MK (k:=k) (by rw[h3.p];exact hk);rw[h3.p]at e;refine⟨p,e,by rw[h1,e],g1,by rw[List.length_map,h3.p],g2,fun w m' hw hm=>⟨?_,g3 _ w lo m' (A1 _ _ _) (fun j _ _ hj=>A0 _ _ hj) (Nat.le_refl _) hm,h3.MK hw,h4⟩⟩;rw[A0 _ _ (by omega),h1]
theorem FD.Q9{N lo m bx k l:Nat}{os:List Int}{P B:AV}{bc:List AV}{X:List (List Int)}{Y:List (List (List Int))}{G:HP}(h:FD N lo m bx os P B bc X Y G)(hk:k<os.length)(hl:l<os.length-1-k):
    ∃ b q,B= .h b 0 os.length∧G bx=some [ints os,P,.h b 0 os.length]∧G b=some bc∧bc.length=os.length∧(lo≤b∧b<m)∧bc.getD k .j= .h q 0 (os.length-1-k)∧G q=some ((Y.getD k []).map ints)∧((Y.getD k []).map ints).length=os.length-1-k∧(lo≤q∧q<m)∧b≠q∧
      ∀(w:List Int) (m':Nat),w.length≤6*N→m≤m'→FD N lo m' bx os P B bc X (Y.set k ((Y.getD k []).set l w)) (AU G q (some (B0 ((Y.getD k []).map ints) l [ints w]))):=by
  obtain⟨h1,h2,h3,h4⟩:=h;have hr:=h3.r k hk;obtain⟨b,q,e,g1,g2,_,g4,g5,g6,g7,g8⟩:=h2.Q9 (k:=k) (l:=l) (by rw[h3.c];exact hk) (by omega);rw[h3.c]at e;rw[hr]at g4;refine⟨b,q,e,by rw[h1,e],g1,by rw[h2.bl,h3.c],g2,g4,g5,by rw[List.length_map,hr],g6,g7,fun w m' hw hm=>⟨?_,g8 _ w lo m' (A1 _ _ _) (fun j _ _ hj=>A0 _ _ hj) (Nat.le_refl _) hm,h3.Q9 hw,h4⟩⟩;rw[A0 _ _ (by omega),h1]
theorem FD.start{N nx m bx:Nat}{os:List Int}{r:AV}{G0 H1:HP}(h:rgK nx G0 os (L2 os.length) (HY os.length) m H1 r)(ho:os.length≤N)(hN:N≤64)(hb:∀x∈os,-1000≤x∧x≤1000)(C4:bx<nx):
    ∃P B bc,r= .g [ints os,P,B]∧one P=true∧one B=true∧(∀i,i<nx→H1 i=G0 i)∧FD N nx m bx os P B bc (L2 os.length) (HY os.length) (AU H1 bx (some [ints os,P,B])):=by
  obtain⟨P,B,bc,e,h1,h2⟩:=h;exact⟨P,B,bc,e,h1.p.one,h1.b.one,h2,A1 _ _ _,h1.AD (fun j _ _=>A0 _ _ (by omega)) (Nat.le_refl _) (Nat.le_refl _),Ck ho hN hb,C4⟩
theorem FD.fz{N lo m bx n:Nat}{os:List Int}{P B:AV}{bc:List AV}{X:List (List Int)}{Y:List (List (List Int))}{G G':HP}(h:FD N lo m bx os P B bc X Y G)(hk:∀i,lo≤i→G' i=G i)(hn:n≤lo):Fz G' (GH n G') (.g [ints os,P,B]) (A8 os X Y):=(h.rg.AD (fun i hi _=>hk i hi) (Nat.le_refl _) (Nat.le_refl _)).fz hn
set_option maxHeartbeats 2000000 in
theorem IT(n:Int)(h0:1≤n)(h6:n≤64):∀nx,AC Tryz.prog 143 nx BN [.i .i64 n] (fun nx' H' r=>∃r2,Fz H' (GH nx H') r r2∧Vk 6 r2):=by
 intro nx
 refine AC.AM A9 Tryz.func143 rfl (by kernel_rfl) Tryz.ntmps143 Tryz.results143 (fun cX=>?_)
 refine sQ fun N hN=>?_;simp-dsimp-implicitDefEqProofs(disch:=omega)only[go_sem,A8,ints];apply hN;refine AW.seq fun N1 BC=>?_;refine sQ fun N hN=>?_;simp-dsimp-implicitDefEqProofs(disch:=omega)only[go_sem,A8,ints];refine AC.pure (.of (GM n 1 729)) ?_;try simp-dsimp-implicitDefEqProofs(disch:=omega)only[go_sem,A8,ints]
 apply hN;refine AW.cond rfl ?_ ?_<;>intro h1
 ·try simp only[cn]at h1
  omega
 try simp only[cn]at h1
 apply AW.skip;apply BC;refine sQ fun N hN=>?_;simp-dsimp-implicitDefEqProofs(disch:=omega)only[go_sem,A8,ints];refine(EG n h0 (by omega) _ _).AG ?_
 rintro m1 H1 r1 MW ⟨⟨fs,b,rfl,hp,S3⟩,VI⟩
 have kG:H1 nx=some [.nl,.nl,.nl]:=(VI nx (by omega)).trans (A1 _ _ _)
 have mD:=(QA hp (by omega)).2 h6
 try simp-dsimp-implicitDefEqProofs(disch:=omega)only[go_sem,ints]
 apply hN;refine AW.seq fun N2 BM=>?_;refine sQ fun N hN=>?_;simp-dsimp-implicitDefEqProofs(disch:=omega)only[go_sem,A8,ints];apply hN;refine AW.cond rfl ?_ ?_<;>intro h2
 ·try simp only[cn]at h2
  refine sQ fun N hN=>?_;simp-dsimp-implicitDefEqProofs(disch:=omega)only[go_sem,A8,ints,kG];apply hN;apply AW.ret;simp-dsimp-implicitDefEqProofs(disch:=omega)only[go_sem];exact⟨_,Fz.t2 zQ,[],[],[],_,rfl,P0.nil.more (by omega)⟩
 try simp only[cn]at h2
 apply AW.skip;apply BM;refine AW.seq fun N3 BQ=>?_;refine sQ fun N hN=>?_;simp-dsimp-implicitDefEqProofs(disch:=omega)only[go_sem,A8,ints];apply hN;refine AW.cond rfl ?_ ?_<;>intro h3
 ·try simp only[cn]at h3
  omega
 try simp only[cn]at h3
 apply AW.skip;apply BQ;refine sQ fun N hN=>?_;simp-dsimp-implicitDefEqProofs(disch:=omega)only[go_sem,A8,ints];refine(BU fs (by omega) _ (.cons (.refl _) .nil)).AG ?_
 intro m2 H2 r2 TI YU
 obtain⟨P,B,bc,rfl,K1,K3,sR,C4⟩:=FD.start (bx:=m1+2+3+2) YU mD (by omega) (fun x hx=>by have:=S3 x hx;omega) (by omega)
 try simp-dsimp-implicitDefEqProofs(disch:=omega)only[go_sem,K1,K3,ints,Bool.and_true]
 apply hN;refine AW.seq fun N4 CG=>?_;refine AW.BD (fun G0 CT=>?_);dsimp only at CT
 have RV:FD 6 (m1+2+3+4) m2 (m1+2+3+2) fs P B bc (L2 fs.length) (HY fs.length) G0:=by rw[←CT];exact C4
 have MH:G0 nx=some [.nl,.nl,.nl]:=by rw[←CT,A0 _ _ (by omega)];exact(sR nx (by omega)).trans kG
 refine sQ fun N hN=>?_;simp-dsimp-implicitDefEqProofs(disch:=omega)only[go_sem,A8,ints];apply hN;apply AW.block;refine AW.AF (α:=Nat×HP×List (List Int)×List (List (List Int))) (fun x=>sl 43 [(2,.q nx 0),(3,.i .i64 0),(4,ints fs),(6,.q (m1+2+3+2) 0),(7,.i .i64 x.1)]) (fun x=>x.2.1) (fun x m=>(x.1≤fs.length∧m2≤m)∧x.2.1 nx=some [.nl,.nl,.nl]∧FD 6 (m1+2+3+4) m (m1+2+3+2) fs P B bc x.2.2.1 x.2.2.2 x.2.1) (fun x=>fs.length-x.1) ((0,G0,L2 fs.length,HY fs.length)) ?_ ?_ (fun _ _ h=>h) ?_
 ·exact⟨⟨by simp,by first|omega|(dsimp only;omega)⟩,MH,RV.AD (fun _ _=>rfl) (by omega) (by first|omega|(dsimp only;omega))⟩
 ·simp(disch:=omega) [AO,AQ,sl,AJ,ints,rows,A4,AJ,A8,ints]<;>omega
 skip
 rintro⟨i,G,X,Y⟩ m ⟨⟨hi,hm⟩,CT,C4⟩
 simp-dsimp-implicitDefEqProofs(disch:=omega)only[go_sem];dsimp only at hi hm CT C4 ⊢
 refine AW.seq fun N5 DW=>?_;refine sQ fun N hN=>?_;simp-dsimp-implicitDefEqProofs(disch:=omega)only[go_sem,A8,ints];apply hN;refine AW.cond rfl ?_ ?_<;>intro h4
 ·try simp only[cn]at h4
  obtain⟨p,zR,IS,PR,OM,Ka,DT⟩:=C4.MK (k:=i) (by omega);have BW:=C4.lt;apply AW.skip;apply DW;refine AW.seq fun N6 HC=>?_;apply AW.block;refine AW.BI A9 (by kernel_rfl) 9 (by kernel_rfl) ?_
  simp-dsimp-implicitDefEqProofs(disch:=omega)only[B3,B4,BH,List.take_succ_cons,List.take_zero,List.drop_succ_cons,List.drop_zero,List.take_nil,List.drop_nil,go_sem,undef,AJ,A8,ints,IS,PR,OM];refine⟨_,.of (IL fs.length (i+1) (by omega) (by omega)),?_⟩;try simp-dsimp-implicitDefEqProofs(disch:=omega)only[go_sem,A8,ints,IS,PR,OM]
  apply HC;refine AW.BD (fun G3 D3=>?_);dsimp only at D3;apply rQ;simp-dsimp-implicitDefEqProofs(disch:=omega)only[go_sem,A8,ints];refine⟨(i+1,G3,X.set i (fG fs.length (i+1)),Y),?_,fun _ _ h=>h,?_,?_⟩
  ·simp(disch:=omega) [AO,AQ,sl,AJ,ints,rows,A4,AJ,A8,ints]<;>omega
  ·have O6:FD 6 (m1+2+3+4) (m+5+10+3) (m1+2+3+2) fs P B bc (X.set i (fG fs.length (i+1))) Y G3:=by rw[←D3];exact DT _ _ (by rw[NB];omega) (by omega)
   have MO:G3 nx=some [.nl,.nl,.nl]:=by rw[←D3,A0 _ _ (by omega)];exact CT
   first|exact⟨⟨by first|omega|(dsimp only;omega),by first|omega|(dsimp only;omega)⟩,MO,O6⟩|exact⟨by first|omega|(dsimp only;omega),MO,O6⟩
  first|omega|(simp only;omega)
 try simp only[cn]at h4
 have HQ:=C4.cl
 have BW:=C4.lt
 apply AW.exit;apply CG;refine sQ fun N hN=>?_;simp-dsimp-implicitDefEqProofs(disch:=omega)only[go_sem,A8,ints,HQ,CT,C4.JD.1,C4.JD.2];apply hN;apply AW.ret;simp-dsimp-implicitDefEqProofs(disch:=omega)only[go_sem];exact⟨_,Fz.t2 (C4.fz (fun i hi=>A0 _ _ (by omega)) (by omega)),fs,X,Y,_,rfl,C4.sh⟩
theorem IU(n:Int)(h0:1≤n)(h6:n≤64)(nx:Nat)(H:HP):AC Tryz.prog 143 nx H [.i .i64 n] (zK nx H (Vk 6)):=AC.zz (IT n h0 h6 nx) H
theorem RN(a b:List Int):List.take a.length (DM a.length fun k=>a.getD k 0)++b.map (AV.i .i64)=(a++b).map (.i .i64):=by
  rw[←KD,List.take_of_length_le (by simp),List.map_append]
theorem JW(os:List Int)(k:Nat)(x:Int)(hn:os.length≤1000)(hk:k≤os.length)(ho:∀i,i<os.length→2≤os.getD i 0∧os.getD i 0≤1000)(hx:0≤x∧x≤1000000):BG Tryz.prog 155 [ints os,.i .i64 k,.i .i64 x] (ints (Cg os k x)):=(RJ os k x hn hk ho hx).pure
theorem EA(b:Nat)(v:List Int)(e:Nat)(hb:b≤1000)(hv:v.length≤1000)(he:e≤1000):BG Tryz.prog 148 [.i .i64 b,ints v,.i .i64 e] (ints (dJ b v e)):=(SL b v e hb hv he).pure
set_option maxHeartbeats 4000000 in
theorem VJ(n q r0 s0:Int)(hn:1≤n∧n≤64)(hq:1≤q∧q≤64)(hr:0≤r0∧r0≤64)(hs:0≤s0∧s0≤64):∀nx,AC Tryz.prog 144 nx BN [.i .i64 n,.i .i64 q,.i .i64 r0,.i .i64 s0] (fun nx' H' r=>∃r2,Fz H' (GH nx H') r r2∧SQ 12 r2):=by
 have hz:¬q=0:=by omega
 intro nx
 refine AC.AM A9 Tryz.func144 rfl (by kernel_rfl) Tryz.ntmps144 Tryz.results144 (fun cX=>?_)
 refine sQ fun N hN=>?_;simp-dsimp-implicitDefEqProofs(disch:=omega)only[go_sem,A8,ints,hz];apply hN;refine sQ fun N hN=>?_;simp-dsimp-implicitDefEqProofs(disch:=omega)only[go_sem,A8,ints,hz];refine(EG n hn.1 (by omega) _ _).AG ?_
 rintro m1 H1 r1 MW ⟨⟨O7,b1,rfl,PR,Vl⟩,VI⟩
 have A3V:=(QA PR (by omega)).2 hn.2
 try simp-dsimp-implicitDefEqProofs(disch:=omega)only[go_sem,ints]
 apply hN;refine sQ fun N hN=>?_;simp-dsimp-implicitDefEqProofs(disch:=omega)only[go_sem,A8,ints,hz];refine(EG q hq.1 (by omega) _ _).AG ?_
 rintro m2 H2 r2 TI ⟨⟨fs2,b2,rfl,OM,zD⟩,sR⟩
 have A3W:=(QA OM (by omega)).2 hq.2
 have ZR:H2 nx=some [.nl,.nl,.nl]:=(sR nx (by omega)).trans ((VI nx (by omega)).trans (A1 _ _ _))
 try simp-dsimp-implicitDefEqProofs(disch:=omega)only[go_sem,ints]
 apply hN;refine sQ fun N hN=>?_;simp-dsimp-implicitDefEqProofs(disch:=omega)only[go_sem,A8,ints,hz];refine(CB O7 (by omega) _ _).AG ?_
 rintro m3 H3 r3 S9 ⟨uC,rfl,cY,XH,rfl⟩
 try simp-dsimp-implicitDefEqProofs(disch:=omega)only[go_sem,A8,ints,hz]
 apply hN;obtain⟨os,OI⟩:∃os,O7++fs2=os:=⟨_,rfl⟩
 have gO:os.length=O7.length+fs2.length:=by rw[←OI,List.length_append]
 have OL:∀x∈os,2≤x∧x≤7:=fun x hx=>by
  rw[←OI]at hx;rcases List.mem_append.1 hx with h|h
  ·exact Vl x h
  exact zD x h
 have UA:∀i,i<os.length→2≤os.getD i 0∧os.getD i 0≤1000:=fun i hi=>by
  rw[List.getD_eq_getElem?_getD,List.getElem?_eq_getElem hi];have:=OL _ (List.getElem_mem hi);simp;omega
 refine AW.freeze 13 (m2+3) (O7.length+fs2.length) (os.map (.i .i64)) rfl (by dsimp only;rw[A1,RN,OI]) (by rw[List.length_map,gO]) ?_
 rw[←gO]
 refine AW.BD (fun G0 CT=>?_);dsimp only at CT
 have h0n:G0 nx=some [.nl,.nl,.nl]:=by rw[←CT];simp(disch:=omega)only[A0];exact ZR
 simp-dsimp-implicitDefEqProofs(disch:=omega)only[go_sem];refine sQ fun N hN=>?_;simp-dsimp-implicitDefEqProofs(disch:=omega)only[go_sem,A8,ints,hz];refine(BU os (by omega) _ (.cons (.refl _) .nil)).AG ?_
 intro m4 H4 r4 sS YU
 obtain⟨P,B,bc,rfl,K1,K3,JX,C4⟩:=FD.start (N:=12) (bx:=m3+2) YU (by omega) (by omega) (fun x hx=>by have:=OL x hx;omega) (by omega)
 try simp-dsimp-implicitDefEqProofs(disch:=omega)only[go_sem,K1,K3,ints,Bool.and_true]
 apply hN;refine sQ fun N hN=>?_;simp-dsimp-implicitDefEqProofs(disch:=omega)only[go_sem,A8,ints,hz];apply hN;refine AW.seq fun N1 BC=>?_;refine AW.BD (fun G1 F0=>?_);dsimp only at F0
 have RV:FD 12 (m3+4) m4 (m3+2) os P B bc (L2 os.length) (HY os.length) G1:=by rw[←F0];exact C4
 have LU:G1 nx=some [.nl,.nl,.nl]:=by rw[←F0,A0 _ _ (by omega)];exact(JX nx (by omega)).trans h0n
 refine sQ fun N hN=>?_;simp-dsimp-implicitDefEqProofs(disch:=omega)only[go_sem,A8,ints,hz];apply hN;apply AW.block;refine AW.AF (α:=Nat×HP×List (List Int)) (fun x=>sl 106 [(1,.i .i64 q),(2,.i .i64 r0),(3,.i .i64 s0),(8,.q nx 0),(9,ints O7),(13,ints os),(14,.q (m3+2) 0),(15,.i .i64 O7.length),(16,.i .i64 x.1)]) (fun x=>x.2.1) (fun x m=>(x.1≤os.length∧m4≤m)∧x.2.1 nx=some [.nl,.nl,.nl]∧FD 12 (m3+4) m (m3+2) os P B bc x.2.2 (HY os.length) x.2.1) (fun x=>os.length-x.1) ((0,G1,L2 os.length)) ?_ ?_ (fun _ _ h=>h) ?_
 ·exact⟨⟨by simp,by first|omega|(dsimp only;omega)⟩,LU,RV.AD (fun _ _=>rfl) (by omega) (by first|omega|(dsimp only;omega))⟩
 ·simp(disch:=omega) [AO,AQ,sl,AJ,ints,rows,A4,AJ,A8,ints,hz]<;>omega
 skip
 rintro⟨i,G,X⟩ m ⟨⟨hi,hm⟩,CT,C4⟩
 simp-dsimp-implicitDefEqProofs(disch:=omega)only[go_sem];dsimp only at hi hm CT C4 ⊢
 have BW:=C4.lt
 refine AW.seq fun N2 BM=>?_;refine sQ fun N hN=>?_;simp-dsimp-implicitDefEqProofs(disch:=omega)only[go_sem,A8,ints,hz];apply hN;refine AW.cond rfl ?_ ?_<;>intro h1
 ·try simp only[cn]at h1
  obtain⟨p,zR,IS,PR,OM,Ka,DT⟩:=C4.MK (k:=i) (by omega);apply AW.skip;apply BM;refine AW.seq fun N3 BQ=>?_;apply AW.block;refine sQ fun N hN=>?_;simp-dsimp-implicitDefEqProofs(disch:=omega)only[go_sem,A8,ints,hz];apply hN;refine AW.cond rfl ?_ ?_<;>intro h2
  ·try simp only[cn]at h2
   refine AW.BI A9 (by kernel_rfl) 9 (by kernel_rfl) ?_;simp-dsimp-implicitDefEqProofs(disch:=omega)only[B3,B4,BH,List.take_succ_cons,List.take_zero,List.drop_succ_cons,List.drop_zero,List.take_nil,List.drop_nil,go_sem,undef,AJ,A8,ints,hz,IS,PR,OM];refine⟨_,.of (IL os.length (i+1) (by omega) (by omega)),?_⟩;try simp-dsimp-implicitDefEqProofs(disch:=omega)only[go_sem,A8,ints,IS,PR,OM]
   apply BQ;refine AW.BD (fun G3 D3=>?_);dsimp only at D3;apply rQ;simp-dsimp-implicitDefEqProofs(disch:=omega)only[go_sem,A8,ints,hz];refine⟨(i+1,G3,X.set i (fG os.length (i+1))),?_,fun _ _ h=>h,?_,?_⟩
   ·simp(disch:=omega) [AO,AQ,sl,AJ,ints,rows,A4,AJ,A8,ints,hz]<;>omega
   ·have O6:FD 12 (m3+4) (m+5+4+10+3) (m3+2) os P B bc (X.set i (fG os.length (i+1))) (HY os.length) G3:=by rw[←D3];exact DT _ _ (by rw[NB];omega) (by omega)
    have MO:G3 nx=some [.nl,.nl,.nl]:=by rw[←D3,A0 _ _ (by omega)];exact CT
    first|exact⟨⟨by first|omega|(dsimp only;omega),by first|omega|(dsimp only;omega)⟩,MO,O6⟩|exact⟨by first|omega|(dsimp only;omega),MO,O6⟩
   first|omega|(simp only;omega)
  try simp only[cn]at h2
  apply AW.skip;apply BQ;refine AW.BD (fun G3 D3=>?_);dsimp only at D3;apply rQ;simp-dsimp-implicitDefEqProofs(disch:=omega)only[go_sem,A8,ints,hz];refine⟨(i+1,G3,X),?_,fun _ _ h=>h,?_,?_⟩
  ·simp(disch:=omega) [AO,AQ,sl,AJ,ints,rows,A4,AJ,A8,ints,hz]<;>omega
  ·rw[D3]at CT C4;have O6:=C4.AD (m':=m+5+4+3) (fun _ _=>rfl) (by omega) (by omega);first|exact⟨⟨by first|omega|(dsimp only;omega),by first|omega|(dsimp only;omega)⟩,CT,O6⟩|exact⟨by first|omega|(dsimp only;omega),CT,O6⟩
  first|omega|(simp only;omega)
 try simp only[cn]at h1
 apply AW.exit;apply BC;refine AW.seq fun N4 CG=>?_;refine sQ fun N hN=>?_;simp-dsimp-implicitDefEqProofs(disch:=omega)only[go_sem,A8,ints,hz];apply hN;refine AW.cond rfl ?_ ?_<;>intro h3
 ·try simp only[cn]at h3
  obtain⟨p,zR,IS,PR,OM,Ka,DT⟩:=C4.MK (k:=O7.length-1) (by omega);have ek:((O7.length:Int)-1).toNat=O7.length-1:=by omega
  refine AW.BI A9 (by kernel_rfl) 9 (by kernel_rfl) ?_;simp-dsimp-implicitDefEqProofs(disch:=omega)only[B3,B4,BH,List.take_succ_cons,List.take_zero,List.drop_succ_cons,List.drop_zero,List.take_nil,List.drop_nil,go_sem,undef,AJ,A8,ints,hz,IS,PR,OM,ek];refine⟨_,.of (JW os O7.length s0 (by omega) (by omega) UA (by omega)),?_⟩;try simp-dsimp-implicitDefEqProofs(disch:=omega)only[go_sem,A8,ints,IS,PR,OM,ek]
  apply CG;refine AW.BD (fun G3 D3=>?_);dsimp only at D3;refine sQ fun N hN=>?_;simp-dsimp-implicitDefEqProofs(disch:=omega)only[go_sem,A8,ints,hz];apply hN;refine AW.seq fun N5 DW=>?_;refine sQ fun N hN=>?_;simp-dsimp-implicitDefEqProofs(disch:=omega)only[go_sem,A8,ints,hz];apply hN;apply AW.block;obtain⟨X1,hX1⟩:∃X1,X.set (O7.length-1) (Cg os O7.length s0)=X1:=⟨_,rfl⟩
  obtain⟨mm,hmm⟩:∃mm,m+5+2+10+4+1=mm:=⟨_,rfl⟩;have cL:FD 12 (m3+4) mm (m3+2) os P B bc X1 (HY os.length) G3:=by rw[←D3,←hX1];exact DT _ _ (by rw[ZE];omega) (by omega)
  have MO:G3 nx=some [.nl,.nl,.nl]:=by rw[←D3,A0 _ _ (by omega)];exact CT
  refine AW.AF (α:=Nat×HP×List (List (List Int))×Int) (fun x=>sl 106 [(1,.i .i64 q),(8,.q nx 0),(9,ints O7),(13,ints os),(14,.q (m3+2) 0),(15,.i .i64 O7.length),(17,.i .i64 x.2.2.2),(18,.i .i64 x.1)]) (fun x=>x.2.1) (fun x m=>(x.1≤O7.length∧mm≤m)∧x.2.1 nx=some [.nl,.nl,.nl]∧FD 12 (m3+4) m (m3+2) os P B bc X1 x.2.2.1 x.2.1∧0≤x.2.2.2∧x.2.2.2<q) (fun x=>O7.length-x.1) ((0,G3,HY os.length,r0.tmod q)) ?_ ?_ (fun _ _ h=>h) ?_
  ·exact⟨⟨by simp,by first|omega|(dsimp only;omega)⟩,MO,cL.AD (fun _ _=>rfl) (by omega) (by first|omega|(dsimp only;omega)),cF hr.1 hq.1⟩
  ·simp(disch:=omega) [AO,AQ,sl,AJ,ints,rows,A4,AJ,A8,ints,hz]<;>omega
  skip
  rintro⟨i,G,Y,pw⟩ m ⟨⟨hi,hm⟩,CT,C4,gL⟩;simp-dsimp-implicitDefEqProofs(disch:=omega)only[go_sem];dsimp only at hi hm CT C4 gL ⊢;refine AW.seq fun N6 HC=>?_;refine sQ fun N hN=>?_;simp-dsimp-implicitDefEqProofs(disch:=omega)only[go_sem,A8,ints,hz];apply hN;refine AW.cond rfl ?_ ?_<;>intro h4
  ·try simp only[cn]at h4
   apply AW.skip;apply HC;refine AW.seq fun N7 JO=>?_;apply AW.block;refine AW.seq fun N8 JJ=>?_;refine sQ fun N hN=>?_;simp-dsimp-implicitDefEqProofs(disch:=omega)only[go_sem,A8,ints,hz];apply hN;apply AW.block;refine AW.AF (α:=Nat×HP×List (List (List Int))) (fun x=>sl 106 [(1,.i .i64 q),(8,.q nx 0),(9,ints O7),(13,ints os),(14,.q (m3+2) 0),(15,.i .i64 O7.length),(17,.i .i64 pw),(18,.i .i64 i),(19,.i .i64 ((O7.length+x.1:Nat):Int))]) (fun x=>x.2.1) (fun x m=>(O7.length+x.1≤os.length∧mm≤m)∧x.2.1 nx=some [.nl,.nl,.nl]∧FD 12 (m3+4) m (m3+2) os P B bc X1 x.2.2 x.2.1) (fun x=>os.length-x.1) ((0,G,Y)) ?_ ?_ (fun _ _ h=>h) ?_
   ·exact⟨⟨by simp;omega,by first|omega|(dsimp only;omega)⟩,CT,C4.AD (fun _ _=>rfl) (by omega) (by first|omega|(dsimp only;omega))⟩
   ·simp(disch:=omega) [AO,AQ,sl,AJ,ints,rows,A4,AJ,A8,ints,hz]<;>omega
   skip
   rintro⟨d,G,Y⟩ m ⟨⟨hd,hm⟩,CT,C4⟩;simp-dsimp-implicitDefEqProofs(disch:=omega)only[go_sem];dsimp only at hd hm CT C4 ⊢;have BW:=C4.lt;refine AW.seq fun N9 M6=>?_;refine sQ fun N hN=>?_;simp-dsimp-implicitDefEqProofs(disch:=omega)only[go_sem,A8,ints,hz];apply hN;refine AW.cond rfl ?_ ?_<;>intro h5
   ·(try simp only[cn]at h5);obtain⟨b,qq,Zn,HQ,MX,LF,O6,QL,J9,NH,WQ,zO,DT⟩:=C4.Q9 (k:=i) (l:=O7.length+d-i-1) (by omega) (by omega);have ek:(((O7.length+d:Nat):Int)-i-1).toNat=O7.length+d-i-1:=by omega
    apply AW.skip;apply M6;refine AW.seq fun lF FW=>?_;apply AW.block;refine AW.BI A9 (by kernel_rfl) 14 (by kernel_rfl) ?_
    simp-dsimp-implicitDefEqProofs(disch:=omega)only[B3,B4,BH,List.take_succ_cons,List.take_zero,List.drop_succ_cons,List.drop_zero,List.take_nil,List.drop_nil,go_sem,undef,AJ,A8,ints,hz,HQ,MX,LF,QL,J9,NH,ek];refine⟨_,.of (JW os (O7.length+d) pw (by omega) (by omega) UA (by omega)),?_⟩;try simp-dsimp-implicitDefEqProofs(disch:=omega)only[go_sem,A8,ints,HQ,MX,LF,QL,J9,NH,ek]
    apply FW;refine AW.BD (fun G5 DD=>?_);dsimp only at DD;apply rQ;simp-dsimp-implicitDefEqProofs(disch:=omega)only[go_sem,A8,ints,hz];refine⟨(d+1,G5,Y.set i ((Y.getD i []).set (O7.length+d-i-1) (Cg os (O7.length+d) pw))),?_,fun _ _ h=>h,?_,?_⟩
    ·simp(disch:=omega) [AO,AQ,sl,AJ,ints]<;>omega
    ·have P1:FD 12 (m3+4) (m+4+15+3) (m3+2) os P B bc X1 (Y.set i ((Y.getD i []).set (O7.length+d-i-1) (Cg os (O7.length+d) pw))) G5:=by rw[←DD];exact DT _ _ (by rw[ZE];omega) (by omega)
     have VK:G5 nx=some [.nl,.nl,.nl]:=by rw[←DD,A0 _ _ (by omega)];exact CT
     first|exact⟨⟨by first|omega|(dsimp only;omega),by first|omega|(dsimp only;omega)⟩,VK,P1⟩|exact⟨by first|omega|(dsimp only;omega),VK,P1⟩
    first|omega|(simp only;omega)
   try simp only[cn]at h5
   have T5:i<O7.length:=by omega
   have hfi:=F7 (p:=fun x:Int=>0≤x∧x≤7) (X:=O7) (d:=0) (fun x hx=>by have:=Vl x hx;omega) (by omega) i;apply AW.exit;apply JJ;apply rQ;simp-dsimp-implicitDefEqProofs(disch:=omega)only[go_sem,A8,ints,hz,A6];refine(SN pw (O7.getD i 0) q (by omega) (by omega) (by omega) _ _).AG ?_;rintro m7 H7 r7 Nl ⟨⟨x7,rfl,Cl⟩,cM⟩;have NW:=C4.AD (G':=H7) (m':=m7+3) (fun j hj=>cM j (by omega)) (by omega) (by omega);have Vm:=(cM nx (by omega)).trans CT;try simp-dsimp-implicitDefEqProofs(disch:=omega)only[go_sem,A8,ints,hz]
   apply JO;apply rQ;simp-dsimp-implicitDefEqProofs(disch:=omega)only[go_sem,A8,ints,hz];refine⟨(i+1,H7,Y,x7),?_,fun _ _ h=>h,?_,?_⟩
   ·simp(disch:=omega) [AO,AQ,sl,AJ,ints,rows,A4,AJ,A8,ints,hz]<;>omega
   ·first|exact⟨⟨by first|omega|(dsimp only;omega),by first|omega|(dsimp only;omega)⟩,Vm,NW,Cl⟩|exact⟨by first|omega|(dsimp only;omega),Vm,NW,Cl⟩
   first|omega|(simp only;omega)
  try simp only[cn]at h4
  apply AW.exit;apply DW;first|rw[D3]at C4 CT|skip
  have HQ:=C4.cl;have BW:=C4.lt;refine sQ fun N hN=>?_;simp-dsimp-implicitDefEqProofs(disch:=omega)only[go_sem,A8,ints,hz,HQ,CT,C4.JD.1,C4.JD.2];apply hN;apply AW.ret;simp-dsimp-implicitDefEqProofs(disch:=omega)only[go_sem];exact⟨_,C4.fz (fun i hi=>A0 _ _ (by omega)) (by omega),os,_,_,rfl,C4.sh⟩
 try simp only[cn]at h3
 have YG:O7.length=0:=by omega
 apply AW.skip;apply CG;refine AW.BD (fun G3 D3=>?_);dsimp only at D3
 refine sQ fun N hN=>?_;simp-dsimp-implicitDefEqProofs(disch:=omega)only[go_sem,A8,ints,hz];apply hN;refine AW.seq fun p5 HI=>?_;refine sQ fun N hN=>?_;simp-dsimp-implicitDefEqProofs(disch:=omega)only[go_sem,A8,ints,hz];apply hN;apply AW.block;refine AW.Rr ?_;refine AW.seq fun wX KG=>?_;refine sQ fun N hN=>?_;simp-dsimp-implicitDefEqProofs(disch:=omega)only[go_sem,A8,ints,hz];apply hN;refine AW.cond rfl (fun h=>absurd h (by first|(simp;done)|(simp only[decide_eq_true_eq];omega))) (fun _=>?_)
 apply AW.exit;apply HI;first|rw[D3]at C4 CT|skip
 have HQ:=C4.cl
 have BW:=C4.lt
 refine sQ fun N hN=>?_;simp-dsimp-implicitDefEqProofs(disch:=omega)only[go_sem,A8,ints,hz,HQ,CT,C4.JD.1,C4.JD.2];apply hN;apply AW.ret;simp-dsimp-implicitDefEqProofs(disch:=omega)only[go_sem];exact⟨_,C4.fz (fun i hi=>A0 _ _ (by omega)) (by omega),os,_,_,rfl,C4.sh⟩
theorem CU(n q r0 s0:Int)(hn:1≤n∧n≤64)(hq:1≤q∧q≤64)(hr:0≤r0∧r0≤64)(hs:0≤s0∧s0≤64)(nx:Nat)(H:HP):AC Tryz.prog 144 nx H [.i .i64 n,.i .i64 q,.i .i64 r0,.i .i64 s0] (zK nx H (SQ 12)):=AC.zz (VJ n q r0 s0 hn hq hr hs nx) H
theorem FI.eqI{H:HP}:∀{xs:List Int} {cs:List AV} {ks:List Nat},FI H cs (xs.map (.i .i64)) ks→cs=xs.map (.i .i64)∧ks=[]:=by
  intro xs;induction xs with
  |nil=>intro cs ks h;cases h;exact⟨rfl,rfl⟩
  | cons x xs ih=>
    intro cs ks h;rw[List.map_cons]at h;cases h with
    | cons y z ys zs is js h1 h2=>
      obtain⟨rfl,rfl⟩:=ih h2;cases h1;exact⟨rfl,rfl⟩
theorem Ow.Vn{H:HP}{r:AV}{a:List Int}{ids:List Nat}(h:Ow H r (Go.Proofs.YtghmeeifjeafmaaGreat.ints a) ids)(hp:0<a.length):∃id,r= .h id 0 a.length∧ids=[id]∧H id=some (a.map (.i .i64)):=by
  unfold Go.Proofs.YtghmeeifjeafmaaGreat.ints at h;rcases h.VA _ _ rfl with ⟨e,_⟩|⟨_,e,_⟩|⟨id,cs,CH,rfl,rfl,g1,g2,g3⟩
  · subst e;cases h with
    | leaf _ hf hn=>cases a with
      |nil=>simp at hp
      |cons x xs=>cases hf
  · omega
  obtain⟨rfl,rfl⟩:=g3.eqI;exact⟨id,rfl,rfl,g1⟩
theorem Ow.sU{H:HP}{r:AV}{n:Nat}{ts:List AV}{ids:List Nat}(h:Ow H r (.v n ts) ids)(hp:0<n):∃id cs CH,r= .h id 0 n∧ids=id::CH∧H id=some cs∧cs.length=n∧FI H cs ts CH:=by
  rcases h.VA _ _ rfl with ⟨e,_⟩|⟨_,e,_⟩|h
  · subst e;cases h with
    |leaf _ hf hn=>cases hf;omega
  · omega
  exact h
theorem cO{α:Type}{cs:List α}{k:Nat}{d x:α}(hk:k<cs.length)(h:cs.getD k d=x):cs.set k x=cs:=by
  apply List.ext_getElem?;intro i;rw[List.getElem?_set];split
  · rename_i e;subst e;rw[←h,List.getD_eq_getElem?_getD,List.getElem?_eq_getElem hk];rfl
  rfl
theorem Ow.Vo{H:HP}{r:AV}{a:List Int}{ids:List Nat}{l:Nat}(h:Ow H r (Go.Proofs.YtghmeeifjeafmaaGreat.ints a) ids)(hl:l<a.length):
    ∃q,r= .h q 0 a.length∧ids=[q]∧H q=some (a.map (.i .i64))∧∀v,Ow (AU H q (some (B0 (a.map (.i .i64)) l [.i .i64 v]))) r (Go.Proofs.YtghmeeifjeafmaaGreat.ints (a.set l v)) ids:=by
  obtain⟨q,rfl,rfl,h1⟩:=h.Vn (by omega);refine⟨q,rfl,rfl,h1,fun v=>Ow.ints ?_ (by simp)⟩;rw[A1,Q8 (by simpa using hl),List.map_set]
theorem Ow.sV{H:HP}{r:AV}{W:List (List Int)}{ids:List Nat}{k l:Nat}(h:Ow H r (rows W) ids)(CY:ids.Nodup)(hk:k<W.length)(hl:l<(W.getD k []).length):
    ∃ p rs q,r= .h p 0 W.length∧H p=some rs∧rs.length=W.length∧rs.getD k .j= .h q 0 (W.getD k []).length∧H q=some ((W.getD k []).map (.i .i64))∧p∈ids∧q∈ids∧p≠q∧
      ∀v,Ow (AU H q (some (B0 ((W.getD k []).map (.i .i64)) l [.i .i64 v]))) r (rows (W.set k ((W.getD k []).set l v))) ids:=by
  unfold rows at h;obtain⟨p,rs,js,rfl,rfl,h1,h2,h3⟩:=h.sU (by omega);obtain⟨il,is,ir,rfl,s1,s2,s3⟩:=h3.cut (a:=k) (by omega);rw[A7 hk]at s2;obtain⟨q,e,rfl,h4,h5⟩:=s2.Vo hl;obtain⟨UM,TJ⟩:=List.nodup_cons.1 CY;simp only[List.mem_append,List.mem_singleton,not_or]at UM;have Kb:q∉il:=by simp only[List.nodup_append,List.mem_append,List.mem_singleton]at TJ;grind
  have Kc:q∉ir:=by simp only[List.nodup_append,List.mem_append,List.mem_singleton]at TJ;grind
  refine⟨p,rs,q,rfl,h1,h2,e,h4,by simp,by simp,fun e2=>UM.2.1 e2,fun v=>?_⟩;have s4:=FI.set (s1.AD fun i hi=>A0 _ _ (fun e2=>Kb (by rw[←e2];exact hi))) (h5 v) (s3.AD fun i hi=>A0 _ _ (fun e2=>Kc (by rw[←e2];exact hi))) (a:=k) (by omega) (by simpa using hk);rw[cO (by omega) rfl]at s4;have:=Ow.h p rs _ _ ((A0 _ _ (fun e2=>UM.2.1 e2)).trans h1) s4;rw[h2]at this;unfold rows;rw[List.length_set,List.map_set];exact this
theorem Ow.Kd{H:HP}{r:AV}{C:List (List (List Int))}{ids:List Nat}{c k l:Nat}(h:Ow H r (A4 C) ids)(CY:ids.Nodup)(hc:c<C.length)(hk:k<(C.getD c []).length)(hl:l<((C.getD c []).getD k []).length):
    ∃ b bs p rs q,r= .h b 0 C.length∧H b=some bs∧bs.length=C.length∧bs.getD c .j= .h p 0 (C.getD c []).length∧H p=some rs∧rs.length=(C.getD c []).length∧rs.getD k .j= .h q 0 ((C.getD c []).getD k []).length∧H q=some (((C.getD c []).getD k []).map (.i .i64))∧b∈ids∧p∈ids∧q∈ids∧(b≠p∧b≠q∧p≠q)∧
      ∀v,Ow (AU H q (some (B0 (((C.getD c []).getD k []).map (.i .i64)) l [.i .i64 v]))) r (A4 (C.set c ((C.getD c []).set k (((C.getD c []).getD k []).set l v)))) ids:=by
  unfold A4 at h;obtain⟨b,bs,js,rfl,rfl,h1,h2,h3⟩:=h.sU (by omega);obtain⟨il,is,ir,rfl,s1,s2,s3⟩:=h3.cut (a:=c) (by omega);rw[AB hc]at s2;obtain⟨UM,TJ⟩:=List.nodup_cons.1 CY;have A2K:is.Nodup:=by simp only[List.nodup_append,List.mem_append]at TJ;grind
  obtain⟨p,rs,q,e,h4,h5,h6,h7,hp,hq,hpq,h8⟩:=s2.sV A2K hk hl;simp only[List.mem_append,not_or]at UM;have Kb:q∉il:=by simp only[List.nodup_append,List.mem_append]at TJ;grind
  have Kc:q∉ir:=by simp only[List.nodup_append,List.mem_append]at TJ;grind
  have IS:b≠p:=fun e2=>UM.2.1 (by rw[e2];exact hp)
  have zO:b≠q:=fun e2=>UM.2.1 (by rw[e2];exact hq)
  refine⟨b,bs,p,rs,q,rfl,h1,h2,e,h4,h5,h6,h7,by simp,by simp[hp],by simp[hq],⟨IS,zO,hpq⟩,fun v=>?_⟩;have s4:=FI.set (s1.AD fun i hi=>A0 _ _ (fun e2=>Kb (by rw[←e2];exact hi))) (h8 v) (s3.AD fun i hi=>A0 _ _ (fun e2=>Kc (by rw[←e2];exact hi))) (a:=c) (by omega) (by simpa using hc);rw[cO (by omega) rfl]at s4;have:=Ow.h b bs _ _ ((A0 _ _ zO).trans h1) s4;rw[h2]at this;unfold A4;rw[List.length_set,List.map_set];exact this
section
variable{a m:Nat}{H:HP}{r P B:AV}{os:List Int}{X:List (List Int)}{Y:List (List (List Int))}
theorem DH.Vp{k:Nat}(h:DH a m H r P B os X Y)(hk:k<os.length):∃q,r= .h q 0 os.length∧H q=some (os.map (.i .i64))∧(a≤q∧q<m)∧∀v,DH a m (AU H q (some (B0 (os.map (.i .i64)) k [.i .i64 v]))) r P B (os.set k v) X Y:=by
  obtain⟨i0,i1,i2,⟨h0,h1,h2⟩,CY,WG⟩:=h;obtain⟨q,e,rfl,g1,g2⟩:=h0.Vo hk;have n1:q∉i1++i2:=(List.nodup_cons.1 CY).1;simp only[List.mem_append,not_or]at n1;exact⟨q,e,g1,WG q (by simp),fun v=>⟨[q],i1,i2,⟨g2 v,h1.AD fun i hi=>A0 _ _ (fun e2=>n1.1 (by rw[←e2];exact hi)),h2.AD fun i hi=>A0 _ _ (fun e2=>n1.2 (by rw[←e2];exact hi))⟩,CY,WG⟩⟩
theorem DH.sV{k l:Nat}(h:DH a m H r P B os X Y)(hk:k<X.length)(hl:l<(X.getD k []).length):
    ∃ p rs q,P= .h p 0 X.length∧H p=some rs∧rs.length=X.length∧rs.getD k .j= .h q 0 (X.getD k []).length∧H q=some ((X.getD k []).map (.i .i64))∧(a≤p∧p<m)∧(a≤q∧q<m)∧p≠q∧
      ∀v,DH a m (AU H q (some (B0 ((X.getD k []).map (.i .i64)) l [.i .i64 v]))) r P B os (X.set k ((X.getD k []).set l v)) Y:=by
  obtain⟨i0,i1,i2,⟨h0,h1,h2⟩,CY,WG⟩:=h;have UM:i1.Nodup:=by simp only[List.nodup_append,List.mem_append]at CY;grind
  obtain⟨p,rs,q,e,g1,g2,g3,g4,g5,g6,g7,g8⟩:=h1.sV UM hk hl;have n0:q∉i0:=by simp only[List.nodup_append,List.mem_append]at CY;grind
  have n2:q∉i2:=by simp only[List.nodup_append,List.mem_append]at CY;grind
  exact⟨p,rs,q,e,g1,g2,g3,g4,WG p (by simp[g5]),WG q (by simp[g6]),g7,fun v=>⟨i0,i1,i2,⟨h0.AD fun i hi=>A0 _ _ (fun e2=>n0 (by rw[←e2];exact hi)),g8 v,h2.AD fun i hi=>A0 _ _ (fun e2=>n2 (by rw[←e2];exact hi))⟩,CY,WG⟩⟩
theorem DH.Kd{c k l:Nat}(h:DH a m H r P B os X Y)(hc:c<Y.length)(hk:k<(Y.getD c []).length)(hl:l<((Y.getD c []).getD k []).length):
    ∃ b bs p rs q,B= .h b 0 Y.length∧H b=some bs∧bs.length=Y.length∧bs.getD c .j= .h p 0 (Y.getD c []).length∧H p=some rs∧rs.length=(Y.getD c []).length∧rs.getD k .j= .h q 0 ((Y.getD c []).getD k []).length∧H q=some (((Y.getD c []).getD k []).map (.i .i64))∧(a≤b∧b<m)∧(a≤p∧p<m)∧(a≤q∧q<m)∧(b≠p∧b≠q∧p≠q)∧
      ∀v,DH a m (AU H q (some (B0 (((Y.getD c []).getD k []).map (.i .i64)) l [.i .i64 v]))) r P B os X (Y.set c ((Y.getD c []).set k (((Y.getD c []).getD k []).set l v))):=by
  obtain⟨i0,i1,i2,⟨h0,h1,h2⟩,CY,WG⟩:=h;have TJ:i2.Nodup:=by simp only[List.nodup_append,List.mem_append]at CY;grind
  obtain⟨b,bs,p,rs,q,e,g1,g2,g3,g4,g5,g6,g7,g8,g9,Xz,As,Ya⟩:=h2.Kd TJ hc hk hl;have n0:q∉i0:=by simp only[List.nodup_append,List.mem_append]at CY;grind
  have n1:q∉i1:=by simp only[List.nodup_append,List.mem_append]at CY;grind
  exact⟨b,bs,p,rs,q,e,g1,g2,g3,g4,g5,g6,g7,WG b (by simp[g8]),WG p (by simp[g9]),WG q (by simp[Xz]),As,fun v=>⟨i0,i1,i2,⟨h0.AD fun i hi=>A0 _ _ (fun e2=>n0 (by rw[←e2];exact hi)),h1.AD fun i hi=>A0 _ _ (fun e2=>n1 (by rw[←e2];exact hi)),Ya v⟩,CY,WG⟩⟩
theorem DH.A2L{a' m' k:Nat}{H':HP}{r1:AV}{W:List (List Int)}{is:List Nat}(h:DH a m H r P B os X Y)(hk:k<Y.length):∃b bs,B= .h b 0 Y.length∧H b=some bs∧bs.length=Y.length∧(a≤b∧b<m)∧
      (Ow H' r1 (rows W) is→is.Nodup→(∀i∈is,(i<a∨m≤i)∧a'≤i∧i<m')→H' b=some (B0 bs k [r1])→(∀i,a≤i→i<m→i≠b→H' i=H i)→m≤m'→a'≤a→DH a' m' H' r P B os X (Y.set k W)):=by
  obtain⟨i0,i1,i2,⟨h0,h1,h2⟩,h3,h4⟩:=h;unfold A4 at h2;obtain⟨b,bs,js,rfl,rfl,g1,g2,g3⟩:=h2.sU (by omega);refine⟨b,bs,rfl,g1,g2,h4 b (by simp),fun ho CY hb Uo EV hm Bv=>?_⟩;have TJ:(b::js).Nodup:=by simp only[List.nodup_append,List.mem_append]at h3;grind
  obtain⟨w1,w2,l2,l3,w3,w4,w5,w6,w7⟩:=h2.Jr g1 (by omega) ho Uo (fun i hi=>EV i (h4 i (by simp only[List.mem_append];exact .inr (.inr hi))).1 (h4 i (by simp only[List.mem_append];exact .inr (.inr hi))).2) TJ;have AL:∀i,i∈i0∨i∈i1→i≠b:=by
    intro i hi e;subst e;simp only[List.nodup_append,List.nodup_cons,List.mem_append,List.mem_cons]at h3;grind
  refine⟨i0,i1,b::(l2++(is++l3)),⟨h0.AD fun i hi=>EV i (h4 i (by simp[hi])).1 (h4 i (by simp[hi])).2 (AL i (.inl hi)),h1.AD fun i hi=>EV i (h4 i (by simp[hi])).1 (h4 i (by simp[hi])).2 (AL i (.inr hi)),?_⟩,?_,?_⟩
  · unfold A4;rw[List.length_set,List.map_set];exact w7
  · have h5:∀i∈i0++(i1++b::js),a≤i∧i<m:=h4;simp only[List.nodup_append,List.nodup_cons,List.mem_append,List.mem_cons]at h3 h5 w3 w5 w6 ⊢;grind
  intro i hi;simp only[List.mem_append,List.mem_cons]at hi h4 w3;grind
theorem DH.A2M{a' m':Nat}{H':HP}{r1:AV}{JE:List Int}{is:List Nat}(h:DH a m H r P B os X Y)(ho:Ow H' r1 (ints JE) is)(CY:is.Nodup)(hb:∀i∈is,(i<a∨m≤i)∧a'≤i∧i<m')(EV:∀i,a≤i→i<m→bk r≠i+1→H' i=H i)(hr:WZ r=true)(hm:m≤m')(Bv:a'≤a):DH a' m' H' r1 P B JE X Y:=by
  obtain⟨i0,i1,i2,⟨h0,h1,h2⟩,h3,h4⟩:=h;have AL:∀i,i∈i1∨i∈i2→bk r≠i+1:=by
    intro i hi e;have:i∈i0:=by
      unfold Go.Proofs.YtghmeeifjeafmaaGreat.ints at h0;rcases h0.VA _ _ rfl with ⟨rfl,_⟩|⟨rfl,_⟩|⟨q,cs,CH,rfl,rfl,_⟩
      · cases hr
      · cases e
      simp only[bk]at e;simp;omega
    simp only[List.nodup_append,List.mem_append]at h3;grind
  refine⟨is,i1,i2,⟨ho,h1.AD fun i hi=>EV i (h4 i (by simp[hi])).1 (h4 i (by simp[hi])).2 (AL i (.inl hi)),h2.AD fun i hi=>EV i (h4 i (by simp[hi])).1 (h4 i (by simp[hi])).2 (AL i (.inr hi))⟩,?_,?_⟩
  · have h5:∀i∈i0++(i1++i2),a≤i∧i<m:=h4;simp only[List.nodup_append,List.mem_append]at h3 h5 ⊢;grind
  intro i hi;simp only[List.mem_append]at hi h4;grind
theorem DH.fz{n:Nat}(h:DH a m H r P B os X Y)(hn:n≤a):Fz H (GH n H) (.g [r,P,B]) (A8 os X Y):=by
  obtain⟨i0,i1,i2,⟨h0,h1,h2⟩,h3,h4⟩:=h;have hz:∀i∈i0++(i1++i2),GH n H i=none:=fun i hi=>KR (by have:=h4 i hi;omega)
  refine .g _ _ rfl fun k x y hx hy=>?_
  match k,hx,hy with
  |0,hx,hy=>cases hx;cases hy;exact h0.ML fun i hi=>hz i (by simp[hi])
  |1,hx,hy=>cases hx;cases hy;exact h1.ML fun i hi=>hz i (by simp[hi])
  |2,hx,hy=>cases hx;cases hy;exact h2.ML fun i hi=>hz i (by simp[hi])
theorem DH.JD(h:DH a m H r P B os X Y):one r=true∧one P=true∧one B=true:=by
  obtain⟨i0,i1,i2,⟨h0,h1,h2⟩,h3,h4⟩:=h;exact⟨h0.slice.2.1,h1.slice.2.1,h2.slice.2.1⟩
end
end Go.Proofs.YtghmeeifjeafmaaGreat
