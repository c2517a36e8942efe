import Derived.Test.YtghmeeifjeafmaaGreatZ27
import Derived.Test.YtghmeeifjeafmaaGreatZ33
set_option linter.unusedVariables false
set_option linter.unusedSimpArgs false
namespace Go.Proofs.YtghmeeifjeafmaaGreat
def Kh(d:Int):List UInt8:=(dg d).data.toList
def wtL(w:List Int):List UInt8:=(fJ w).data.toList
theorem mF(d:Int):dg d=CP (Kh d):=(VE _).symm
theorem Vu(w:List Int):fJ w=CP (wtL w):=(VE _).symm
theorem I1(a b:List UInt8):CP a++CP b=CP (a++b):=by
  apply toL_inj;rw[ByteArray.data_append];simp[CP]
def zC(a:List Int):Bool:=a.all (· ==0)
theorem tB{a:List Int}:zC a=true↔iF a:=by
  rw[zC,List.all_eq_true];constructor
  · intro h j hj;have:=h (a.getD j 0) (by simp[hj]);simpa using this
  intro h x hx;obtain⟨j,hj,rfl⟩:=List.mem_iff_getElem.1 hx;have:=h j hj;simpa[hj]using this
def kH(os:List Int):Nat→List UInt8
  |0=>[]
  |k+1=>(if k>0 then kH os k++[32]else kH os k)++Kh (os.getD k 0)
def Nm(i:Nat)(by':List UInt8)(e:List Int):List UInt8:=[59,32]++QG i++[94]++by'++[61]++wtL (fF e e.length)
def kI(os:List Int)(pw:List (List Int)):Nat→List UInt8
  |0=>kH os os.length
  |k+1=>if zC (pw.getD k [])=true then kI os pw k else kI os pw k++Nm k (Kh (os.getD k 0)) (pw.getD k [])
def fO(n i:Nat)(c:List (List Int))(acc:List UInt8):Nat→List UInt8
  |0=>acc
  |t+1=>if c.getD t []=fG n (i+1+t)then fO n i c acc t else fO n i c acc t++Nm (i+1+t) (QG i) (c.getD t [])
def dL(os:List Int)(pw:List (List Int))(cj:List (List (List Int))):Nat→List UInt8
  |0=>kI os pw os.length
  |i+1=>fO os.length i (cj.getD i []) (dL os pw cj i) (os.length-(i+1))
def Nn(os:List Int)(pw:List (List Int))(cj:List (List (List Int))):List UInt8:=if os.length=0 then [49]else dL os pw cj os.length
theorem kJ{d:Int}(h0:0≤d)(h1:d<10):(Kh d).length=1:=by
  have:=ZF h0 h1;rw[mF,BB]at this;exact this
theorem zW(w:List Int):(wtL w).length≤w.length+1:=by
  have:=VD w;rw[Vu,BB]at this;exact this
theorem QH(i:Nat):(QG i).length=1:=rfl
theorem C5{n m:Nat}(h:n+m≤9000000):((n:Int)+(m:Int)≤9223372036854775807)=True:=eq_true (by omega)
theorem kK{i:Nat}{b:List UInt8}{e:List Int}(hb:b.length=1)(he:e.length≤6)(hv:∀k,k<e.length→e.getD k 0≤1000):(Nm i b e).length≤7000:=by
  have h1:=TR hv e.length (Nat.le_refl _);have h2:=zW (fF e e.length);simp only[Nm,List.length_append,QH,hb,List.length_cons,List.length_nil];omega
theorem kL{os:List Int}(h:∀k,k<os.length→0≤os.getD k 0∧os.getD k 0<10):∀k,k≤os.length→(kH os k).length≤2*k:=by
  intro k;induction k with
  |zero=>intro _;simp[kH]
  | succ k ih=>
    intro hk;have h1:=ih (by omega);have h2:=kJ (h k (by omega)).1 (h k (by omega)).2;rw[kH,List.length_append];split
    · rw[List.length_append,List.length_singleton];omega
    omega
theorem zX{os:List Int}{pw:List (List Int)}(hn:os.length≤6)(h:∀k,k<os.length→0≤os.getD k 0∧os.getD k 0<10)(hp:∀k,k<os.length→(pw.getD k []).length≤6∧∀j,j<(pw.getD k []).length→(pw.getD k []).getD j 0≤1000):∀k,k≤os.length→(kI os pw k).length≤12+7000*k:=by
  intro k;induction k with
  |zero=>intro _;have:=kL h os.length (Nat.le_refl _);rw[kI];omega
  | succ k ih=>
    intro hk;have h1:=ih (by omega);have h2:=kK (i:=k) (b:=Kh (os.getD k 0)) (e:=pw.getD k []) (kJ (h k (by omega)).1 (h k (by omega)).2) (hp k (by omega)).1 (hp k (by omega)).2;rw[kI];split
    · omega
    rw[List.length_append];omega
theorem zY{n i:Nat}{c:List (List Int)}{acc:List UInt8}{A:Nat}(ha:acc.length≤A)(hp:∀k,k<c.length→(c.getD k []).length≤6∧∀j,j<(c.getD k []).length→(c.getD k []).getD j 0≤1000):∀k,k≤c.length→(fO n i c acc k).length≤A+7000*k:=by
  intro k;induction k with
  |zero=>intro _;rw[fO];omega
  | succ k ih=>
    intro hk;have h1:=ih (by omega);have h2:=kK (i:=i+1+k) (b:=QG i) (e:=c.getD k []) rfl (hp k (by omega)).1 (hp k (by omega)).2;rw[fO];split
    · omega
    rw[List.length_append];omega
theorem AI.bN{os:List Int}{pw:List (List Int)}{cj:List (List (List Int))}(h:AI os pw cj):
    (∀k,k<os.length→0≤os.getD k 0∧os.getD k 0<10)∧(∀i,i<os.length→(pw.getD i []).length=os.length∧∀j,j<(pw.getD i []).length→0≤(pw.getD i []).getD j 0∧(pw.getD i []).getD j 0≤1000)∧
    ∀i,i<os.length→(cj.getD i []).length+1+i=os.length∧∀t,t<(cj.getD i []).length→((cj.getD i []).getD t []).length=os.length∧∀j,j<((cj.getD i []).getD t []).length→0≤((cj.getD i []).getD t []).getD j 0∧((cj.getD i []).getD t []).getD j 0≤1000:=by
  have ho:∀k,k<os.length→0≤os.getD k 0∧os.getD k 0<10:=fun k hk=>by have:=D0 (h.2.1 k hk);omega
  have hx:∀{v:List Int} {z:Int},mW os v z→v.length=os.length∧∀j,j<v.length→0≤v.getD j 0∧v.getD j 0≤1000:=fun hv=>⟨hv.1,fun j hj=>by
    have h1:=hv.2 j hj;have h2:=ho j (by have:=hv.1;omega);omega⟩
  refine⟨ho,fun i hi=>hx (h.2.2.2 i hi).1,fun i hi=>⟨(h.2.2.2 i hi).2.1,fun t ht=>hx ((h.2.2.2 i hi).2.2 t ht)⟩⟩
theorem Vv(acc:List UInt8)(i:Nat)(bl:List UInt8)(e:List Int):((((((CP acc++⟨#[59,32]⟩)++CP (QG i))++⟨#[94]⟩)++CP bl)++⟨#[61]⟩)++fJ (fF e e.length))=CP (acc++Nm i bl e):=by
  rw[show(⟨#[59,32]⟩:ByteArray)=CP [59,32]from rfl,show(⟨#[94]⟩:ByteArray)=CP [94]from rfl,show(⟨#[61]⟩:ByteArray)=CP [61]from rfl,Vu,I1,I1,I1,I1,I1,I1,Nm];simp only[List.append_assoc]
theorem VS(n j:Nat)(hn:n≤1048576)(hj:j<n):BG Tryz.prog 149 [.i .i64 n,.i .i64 j] (ints (fG n j)):=(IJ n j hn hj).pure
set_option maxRecDepth 20000 in
set_option maxHeartbeats 8000000 in
theorem SS(os:List Int)(pw:List (List Int))(cj:List (List (List Int)))(h:AI os pw cj):BG Tryz.prog 163 [A8 os pw cj] (.s (CP (Nn os pw cj))):=by
 have J4:=h.1.1
 obtain⟨ho,hp,hc⟩:=h.bN
 have z2:(#[(59:UInt8),32]:Array UInt8).size=2:=rfl
 have z1:(#[(94:UInt8)]:Array UInt8).size=1:=rfl
 have z3:(#[(61:UInt8)]:Array UInt8).size=1:=rfl
 have z4:(#[(32:UInt8)]:Array UInt8).size=1:=rfl
 have XI:=h.1.2.1
 have E6:=h.1.2.2
 refine BG.AM A9 Tryz.func163 rfl (by kernel_rfl) Tryz.ntmps163 Tryz.results163 (.s _) (fun nx cX=>?_)
 refine sQ fun N hN=>?_;simp-dsimp-implicitDefEqProofs(disch:=omega)only[go_sem,A8,A5,ints,rows,A4,A6,A7,AB,C5,BB];apply hN;refine AW.B5 1 nx _ rfl (A1 _ _ _) ?_
 simp-dsimp-implicitDefEqProofs(disch:=omega)only[go_sem];refine sQ fun N hN=>?_;simp-dsimp-implicitDefEqProofs(disch:=omega)only[go_sem,A8,A5,ints,rows,A4,A6,A7,AB,C5,BB];apply hN;refine sQ fun N hN=>?_;simp-dsimp-implicitDefEqProofs(disch:=omega)only[go_sem,A8,A5,ints,rows,A4,A6,A7,AB,C5,BB];apply hN;refine AW.seq fun N1 BC=>?_;refine sQ fun N hN=>?_;simp-dsimp-implicitDefEqProofs(disch:=omega)only[go_sem,A8,A5,ints,rows,A4,A6,A7,AB,C5,BB];apply hN;refine AW.cond rfl ?_ ?_<;>intro h1
 ·try simp only[cn]at h1
  refine sQ fun N hN=>?_;simp-dsimp-implicitDefEqProofs(disch:=omega)only[go_sem,A8,A5,ints,rows,A4,A6,A7,AB,C5,BB];apply hN;apply AW.ret;simp-dsimp-implicitDefEqProofs(disch:=omega)only[go_sem];rw[Nn,if_pos (by omega)];rfl
 try simp only[cn]at h1
 apply AW.skip;apply BC;refine AW.seq fun N2 BM=>?_;refine sQ fun N hN=>?_;simp-dsimp-implicitDefEqProofs(disch:=omega)only[go_sem,A8,A5,ints,rows,A4,A6,A7,AB,C5,BB];apply hN;apply AW.block;refine AW.AF (α:=Nat) (fun x=>sl 118 [(1,A5 os pw cj),(3,.i .i64 os.length),(4,.s (CP (kH os x))),(5,.i .i64 x)]) (fun _=>BN) (fun x m=>x≤os.length) (fun x=>os.length-x) (0) ?_ ?_ (Le.del (by simp[BN])) ?_
 ·omega
 ·simp(disch:=omega) [AO,AQ,sl,A5,ints,rows,A4,kH];rfl
 skip
 rintro k m hk
 simp-dsimp-implicitDefEqProofs(disch:=omega)only[go_sem];simp only[A5];have ZY:=kL ho k hk
 refine AW.seq fun N3 BQ=>?_;refine sQ fun N hN=>?_;simp-dsimp-implicitDefEqProofs(disch:=omega)only[go_sem,A8,A5,ints,rows,A4,A6,A7,AB,C5,BB];apply hN;refine AW.cond rfl ?_ ?_<;>intro h2
 ·try simp only[cn]at h2
  have iC:=ho k (by omega);have By:=ZF iC.1 iC.2;apply AW.skip;apply BQ;refine AW.seq fun N4 CG=>?_;apply AW.block;refine AW.seq fun N5 DW=>?_;refine sQ fun N hN=>?_;simp-dsimp-implicitDefEqProofs(disch:=omega)only[go_sem,A8,A5,ints,rows,A4,A6,A7,AB,C5,BB];apply hN;refine AW.cond rfl ?_ ?_<;>intro h3
  ·try simp only[cn]at h3
   have Yg:k>0:=by omega
   have he:(CP (kH os k)++⟨#[32]⟩)++dg (os.getD k 0)=CP (kH os (k+1)):=by
    rw[kH,if_pos Yg,mF,show(⟨#[32]⟩:ByteArray)=CP [32]from rfl,I1,I1]
   apply rQ;simp-dsimp-implicitDefEqProofs(disch:=omega)only[go_sem,A8,A5,ints,rows,A4,A6,A7,AB,C5,BB];apply DW;apply rQ;simp-dsimp-implicitDefEqProofs(disch:=omega)only[go_sem,A8,A5,ints,rows,A4,A6,A7,AB,C5,BB];refine AC.pure (.of (FR (os.getD k 0) iC.1 iC.2)) ?_;try simp-dsimp-implicitDefEqProofs(disch:=omega)only[go_sem,A8,A5,ints,rows,A4,A6,A7,AB,C5,BB]
   apply CG;apply rQ;simp-dsimp-implicitDefEqProofs(disch:=omega)only[go_sem,A8,A5,ints,rows,A4,A6,A7,AB,C5,BB];simp only[he];refine⟨k+1,?_,fun _ _ h=>h,?_,?_⟩
   ·simp(disch:=omega) [AO,AQ,sl,AJ,A5,ints,rows,A4]
   ·omega
   first|omega|(simp only;omega)
  try simp only[cn]at h3
  have he:CP (kH os k)++dg (os.getD k 0)=CP (kH os (k+1)):=by
   rw[kH,if_neg (by omega),mF,I1]
  apply AW.skip;apply DW;apply rQ;simp-dsimp-implicitDefEqProofs(disch:=omega)only[go_sem,A8,A5,ints,rows,A4,A6,A7,AB,C5,BB];refine AC.pure (.of (FR (os.getD k 0) iC.1 iC.2)) ?_;try simp-dsimp-implicitDefEqProofs(disch:=omega)only[go_sem,A8,A5,ints,rows,A4,A6,A7,AB,C5,BB]
  apply CG;apply rQ;simp-dsimp-implicitDefEqProofs(disch:=omega)only[go_sem,A8,A5,ints,rows,A4,A6,A7,AB,C5,BB];simp only[he];refine⟨k+1,?_,fun _ _ h=>h,?_,?_⟩
  ·simp(disch:=omega) [AO,AQ,sl,AJ,A5,ints,rows,A4]
  ·omega
  first|omega|(simp only;omega)
 try simp only[cn]at h2
 have W8:k=os.length:=by omega
 subst W8
 apply AW.exit;apply BM;refine AW.seq fun N6 HC=>?_;refine sQ fun N hN=>?_;simp-dsimp-implicitDefEqProofs(disch:=omega)only[go_sem,A8,A5,ints,rows,A4,A6,A7,AB,C5,BB];apply hN;apply AW.block;refine AW.AF (α:=Nat) (fun x=>sl 118 [(1,A5 os pw cj),(3,.i .i64 os.length),(4,.s (CP (kI os pw x))),(6,.i .i64 x)]) (fun _=>BN) (fun x m=>x≤os.length) (fun x=>os.length-x) (0) ?_ ?_ (fun _ _ h=>h) ?_
 ·omega
 ·simp(disch:=omega) [AO,AQ,sl,A5,ints,rows,A4,kI]
 skip
 rintro k m hk
 simp-dsimp-implicitDefEqProofs(disch:=omega)only[go_sem];simp only[A5];have ZY:=zX J4 ho (fun k hk=>⟨by have:=hp k hk;omega,fun j hj=>((hp k hk).2 j hj).2⟩) k hk
 refine AW.seq fun N7 JO=>?_;refine sQ fun N hN=>?_;simp-dsimp-implicitDefEqProofs(disch:=omega)only[go_sem,A8,A5,ints,rows,A4,A6,A7,AB,C5,BB];apply hN;refine AW.cond rfl ?_ ?_<;>intro h4
 ·try simp only[cn]at h4
  have hpk:=hp k (by omega);have LK:=ho k (by omega);have By:=ZF LK.1 LK.2;have n5:=TR (e:=pw.getD k []) (fun j hj=>(hpk.2 j hj).2) _ (Nat.le_refl _);have hwx:=VD (fF (pw.getD k []) (pw.getD k []).length);have hll:=QH k;apply AW.skip;apply JO;refine AW.seq fun N8 JJ=>?_;apply AW.block;refine sQ fun N hN=>?_;simp-dsimp-implicitDefEqProofs(disch:=omega)only[go_sem,A8,A5,ints,rows,A4,A6,A7,AB,C5,BB];refine AC.pure (.of (S6 (pw.getD k []) (by omega))) ?_;try simp-dsimp-implicitDefEqProofs(disch:=omega)only[go_sem,A8,A5,ints,rows,A4,A6,A7,AB,C5,BB]
  apply hN;refine AW.cond rfl ?_ ?_<;>intro h5
  ·try simp only[cn]at h5
   have hz:¬zC (pw.getD k [])=true:=fun e=>by rw[tB]at e;exact h5 e
   have he:=(Vv (kI os pw k) k (Kh (os.getD k 0)) (pw.getD k [])).trans (show _=CP (kI os pw (k+1)) by rw[kI,if_neg hz]);rw[←mF]at he;refine AW.BI A9 (by kernel_rfl) 23 (by kernel_rfl) ?_;simp-dsimp-implicitDefEqProofs(disch:=omega)only[B3,B4,BH,List.take_succ_cons,List.take_zero,List.drop_succ_cons,List.drop_zero,List.take_nil,List.drop_nil,go_sem,undef,A8,A5,ints,rows,A4,A6,A7,AB,AJ,C5,BB];refine⟨_,.of (FU k (by omega)),?_⟩;try simp-dsimp-implicitDefEqProofs(disch:=omega)only[go_sem,A8,A5,ints,rows,A4,A6,A7,AB,C5,BB]
   refine⟨_,.of (FR (os.getD k 0) LK.1 LK.2),?_⟩;try simp-dsimp-implicitDefEqProofs(disch:=omega)only[go_sem,A8,A5,ints,rows,A4,A6,A7,AB,C5,BB]
   refine⟨_,.of (KZ (pw.getD k []) (by omega) hpk.2),?_⟩;try simp-dsimp-implicitDefEqProofs(disch:=omega)only[go_sem,A8,A5,ints,rows,A4,A6,A7,AB,C5,BB]
   refine⟨_,.of (HK (fF (pw.getD k []) (pw.getD k []).length) (by omega)),?_⟩;try simp-dsimp-implicitDefEqProofs(disch:=omega)only[go_sem,A8,A5,ints,rows,A4,A6,A7,AB,C5,BB]
   apply JJ;apply rQ;simp-dsimp-implicitDefEqProofs(disch:=omega)only[go_sem,A8,A5,ints,rows,A4,A6,A7,AB,C5,BB];simp only[he];refine⟨k+1,?_,fun _ _ h=>h,?_,?_⟩
   ·simp(disch:=omega) [AO,AQ,sl,AJ,A5,ints,rows,A4]
   ·omega
   first|omega|(simp only;omega)
  try simp only[cn]at h5
  have hz:zC (pw.getD k [])=true:=tB.2 (by simpa using h5);have he:CP (kI os pw k)=CP (kI os pw (k+1)):=by rw[kI,if_pos hz]
  apply AW.skip;apply JJ;apply rQ;simp-dsimp-implicitDefEqProofs(disch:=omega)only[go_sem,A8,A5,ints,rows,A4,A6,A7,AB,C5,BB];simp only[he];refine⟨k+1,?_,fun _ _ h=>h,?_,?_⟩
  ·simp(disch:=omega) [AO,AQ,sl,AJ,A5,ints,rows,A4]
  ·omega
  first|omega|(simp only;omega)
 try simp only[cn]at h4
 have W8:k=os.length:=by omega
 subst W8
 apply AW.exit;apply HC;refine AW.seq fun N9 M6=>?_;refine sQ fun N hN=>?_;simp-dsimp-implicitDefEqProofs(disch:=omega)only[go_sem,A8,A5,ints,rows,A4,A6,A7,AB,C5,BB];apply hN;apply AW.block;refine AW.AF (α:=Nat) (fun x=>sl 118 [(1,A5 os pw cj),(3,.i .i64 os.length),(4,.s (CP (dL os pw cj x))),(7,.i .i64 x)]) (fun _=>BN) (fun x m=>x≤os.length∧(dL os pw cj x).length≤42012+42000*x) (fun x=>os.length-x) (0) ?_ ?_ (fun _ _ h=>h) ?_
 ·exact⟨by omega,by rw[dL];omega⟩
 ·simp(disch:=omega) [AO,AQ,sl,A5,ints,rows,A4,dL]
 skip
 rintro i m ⟨hk,PK⟩
 simp-dsimp-implicitDefEqProofs(disch:=omega)only[go_sem];simp only[A5];refine AW.seq fun lF FW=>?_;refine sQ fun N hN=>?_;simp-dsimp-implicitDefEqProofs(disch:=omega)only[go_sem,A8,A5,ints,rows,A4,A6,A7,AB,C5,BB];apply hN;refine AW.cond rfl ?_ ?_<;>intro h6
 ·try simp only[cn]at h6
  obtain⟨hci,PA⟩:=hc i (by omega);apply AW.skip;apply FW;refine AW.seq fun p5 HI=>?_;apply AW.block;refine sQ fun N hN=>?_;simp-dsimp-implicitDefEqProofs(disch:=omega)only[go_sem,A8,A5,ints,rows,A4,A6,A7,AB,C5,BB];apply hN;apply AW.block;refine AW.AF (α:=Nat) (fun x=>sl 118 [(1,A5 os pw cj),(3,.i .i64 os.length),(4,.s (CP (fO os.length i (cj.getD i []) (dL os pw cj i) x))),(7,.i .i64 i),(8,.i .i64 ((i+1+x:Nat):Int))]) (fun _=>BN) (fun x m=>x≤(cj.getD i []).length) (fun x=>(cj.getD i []).length-x) (0) ?_ ?_ (fun _ _ h=>h) ?_
  ·omega
  ·simp(disch:=omega) [AO,AQ,sl,A5,ints,rows,A4,fO,AJ]<;>omega
  skip
  rintro t m ht;simp-dsimp-implicitDefEqProofs(disch:=omega)only[go_sem];simp only[A5];have ZY:=zY (n:=os.length) (i:=i) PK (fun k hk=>⟨by have:=PA k hk;omega,fun j hj=>((PA k hk).2 j hj).2⟩) t ht;refine AW.seq fun wX KG=>?_;refine sQ fun N hN=>?_;simp-dsimp-implicitDefEqProofs(disch:=omega)only[go_sem,A8,A5,ints,rows,A4,A6,A7,AB,C5,BB];apply hN;refine AW.cond rfl ?_ ?_<;>intro h7
  ·try simp only[cn]at h7
   have Au:t<(cj.getD i []).length:=by omega
   obtain⟨Ay,mS⟩:=PA t Au;have n5:=TR (e:=(cj.getD i []).getD t []) (fun j hj=>(mS j hj).2) _ (Nat.le_refl _);have hwx:=VD (fF ((cj.getD i []).getD t []) ((cj.getD i []).getD t []).length);have hll:=QH (i+1+t);have A3Y:=QH i;have e1:(((i+1+t:Nat):Int)-i-1).toNat=t:=by omega
   apply AW.skip;apply KG;refine AW.seq fun Hq NI=>?_;apply AW.block;refine AW.seq fun N hN=>?_;refine AW.BI A9 (by kernel_rfl) 16 (by kernel_rfl) ?_
   simp-dsimp-implicitDefEqProofs(disch:=omega)only[B3,B4,BH,List.take_succ_cons,List.take_zero,List.drop_succ_cons,List.drop_zero,List.take_nil,List.drop_nil,go_sem,undef,A8,A5,ints,rows,A4,A6,A7,AB,AJ,C5,BB,e1];refine⟨_,.of (VS os.length (i+1+t) (by omega) (by omega)),?_⟩;try simp-dsimp-implicitDefEqProofs(disch:=omega)only[go_sem,A8,A5,ints,rows,A4,A6,A7,AB,C5,BB]
   refine⟨_,.of (KW ((cj.getD i []).getD t []) (fG os.length (i+1+t)) (by omega) (by rw[NB];omega)),?_⟩;try simp-dsimp-implicitDefEqProofs(disch:=omega)only[go_sem,A8,A5,ints,rows,A4,A6,A7,AB,C5,BB]
   apply hN;refine AW.cond rfl ?_ ?_<;>intro h8
   ·(try simp only[cn]at h8);have he:=(Vv (fO os.length i (cj.getD i []) (dL os pw cj i) t) (i+1+t) (QG i) ((cj.getD i []).getD t [])).trans (show _=CP (fO os.length i (cj.getD i []) (dL os pw cj i) (t+1)) by rw[fO,if_neg h8]);refine AW.BI A9 (by kernel_rfl) 25 (by kernel_rfl) ?_;simp-dsimp-implicitDefEqProofs(disch:=omega)only[B3,B4,BH,List.take_succ_cons,List.take_zero,List.drop_succ_cons,List.drop_zero,List.take_nil,List.drop_nil,go_sem,undef,A8,A5,ints,rows,A4,A6,A7,AB,AJ,C5,BB,e1];refine⟨_,.of (FU (i+1+t) (by omega)),?_⟩;try simp-dsimp-implicitDefEqProofs(disch:=omega)only[go_sem,A8,A5,ints,rows,A4,A6,A7,AB,C5,BB]
    refine⟨_,.of (FU i (by omega)),?_⟩;try simp-dsimp-implicitDefEqProofs(disch:=omega)only[go_sem,A8,A5,ints,rows,A4,A6,A7,AB,C5,BB]
    refine⟨_,.of (KZ ((cj.getD i []).getD t []) (by omega) mS),?_⟩;try simp-dsimp-implicitDefEqProofs(disch:=omega)only[go_sem,A8,A5,ints,rows,A4,A6,A7,AB,C5,BB]
    refine⟨_,.of (HK (fF ((cj.getD i []).getD t []) ((cj.getD i []).getD t []).length) (by omega)),?_⟩;try simp-dsimp-implicitDefEqProofs(disch:=omega)only[go_sem,A8,A5,ints,rows,A4,A6,A7,AB,C5,BB]
    apply NI;apply rQ;simp-dsimp-implicitDefEqProofs(disch:=omega)only[go_sem,A8,A5,ints,rows,A4,A6,A7,AB,C5,BB];simp only[he];refine⟨t+1,?_,fun _ _ h=>h,?_,?_⟩
    ·simp(disch:=omega) [AO,AQ,sl,AJ,A5,ints,rows,A4]<;>omega
    ·omega
    first|omega|(simp only;omega)
   try simp only[cn]at h8
   have he:CP (fO os.length i (cj.getD i []) (dL os pw cj i) t)=CP (fO os.length i (cj.getD i []) (dL os pw cj i) (t+1)):=by rw[fO,if_pos (by simpa using h8)]
   apply AW.skip;apply NI;apply rQ;simp-dsimp-implicitDefEqProofs(disch:=omega)only[go_sem,A8,A5,ints,rows,A4,A6,A7,AB,C5,BB];simp only[he];refine⟨t+1,?_,fun _ _ h=>h,?_,?_⟩
   ·simp(disch:=omega) [AO,AQ,sl,AJ,A5,ints,rows,A4]<;>omega
   ·omega
   first|omega|(simp only;omega)
  try simp only[cn]at h7
  have hte:t=os.length-(i+1):=by omega
  have he:CP (fO os.length i (cj.getD i []) (dL os pw cj i) t)=CP (dL os pw cj (i+1)):=by rw[dL,hte]
  have BW:(dL os pw cj (i+1)).length≤42012+42000*(i+1):=by rw[dL,←hte];omega
  apply AW.exit;apply HI;apply rQ;simp-dsimp-implicitDefEqProofs(disch:=omega)only[go_sem,A8,A5,ints,rows,A4,A6,A7,AB,C5,BB];simp only[he];refine⟨i+1,?_,fun _ _ h=>h,?_,?_⟩
  ·simp(disch:=omega) [AO,AQ,sl,AJ,A5,ints,rows,A4]
  ·exact⟨by omega,BW⟩
  first|omega|(simp only;omega)
 try simp only[cn]at h6
 have hie:i=os.length:=by omega
 apply AW.exit;apply M6;refine sQ fun N hN=>?_;simp-dsimp-implicitDefEqProofs(disch:=omega)only[go_sem,A8,A5,ints,rows,A4,A6,A7,AB,C5,BB];apply hN;apply AW.ret;simp-dsimp-implicitDefEqProofs(disch:=omega)only[go_sem];rw[Nn,if_neg (by omega),hie]
theorem Vx{x:AV}(h:NR x)(e:Int):NR (.t [x,.i .i64 e]):= .t _ fun k y hk=>by
  match k,hk with
  |0,hk=>cases hk;exact h
  |1,hk=>cases hk;exact .i _ _
abbrev PD:=List Int×List (List Int)×List (List (List Int))
def Ki(n:Nat)(r:List UInt8):Option (List Int):=if (r.all fun b=>decide (97≤b.toNat)&& decide (b.toNat<97+n))=true∧r≠ []then some (r.map fun b=>(b.toNat:Int)-96)else none
def Kj(s:PD)(l:List UInt8):Option PD:=
  match QE 61 l with
  | [[a,x,b,y],r]=>if a=32∧b=94∧97≤x.toNat∧x.toNat-97<s.1.length then
      (Ki s.1.length r).bind fun w=>
        if [y]=Kh (s.1.getD (x.toNat-97) 0)then some (s.1,s.2.1.set (x.toNat-97) (XB s.1.length w),s.2.2)
        else if 97≤y.toNat∧y.toNat-97<x.toNat-97 then some (s.1,s.2.1,s.2.2.set (y.toNat-97) ((s.2.2.getD (y.toNat-97) []).set (x.toNat-97-(y.toNat-97)-1) (XB s.1.length w)))else none
    else none
  |_=>none
def Kk(s:PD)(ps:List (List UInt8)):Nat→Option PD
  |0=>some s
  |k+1=>(Kk s ps k).bind fun t=>Kj t (ps.getD k [])
def Zo(os v:List Int)(z:Nat):Bool:=decide (v.length=os.length)&&(List.range v.length).all fun k=>decide (0≤v.getD k 0)&& decide (v.getD k 0≤os.getD k 0-1)&&(decide (z<k)||decide (v.getD k 0=0))
def kM(s:PD):Bool:=decide (s.1.length≤6)&& decide (s.2.1.length=s.1.length)&& decide (s.2.2.length=s.1.length)&&((List.range s.1.length).all fun i=>decide (s.1.getD i 0=2)||decide (s.1.getD i 0=3)||decide (s.1.getD i 0=5)||decide (s.1.getD i 0=7))&& decide (OK s.1 s.1.length≤729)&&
  (List.range s.1.length).all fun i=>Zo s.1 (s.2.1.getD i []) i && decide ((s.2.2.getD i []).length+1+i=s.1.length)&&(List.range (s.2.2.getD i []).length).all fun k=>Zo s.1 ((s.2.2.getD i []).getD k []) i
def Kl(l:List UInt8):Option PD:=match QE 59 l with
  |[]=>none
  |h::ps=>(tA h).bind fun os=>(Kk (os,L2 os.length,HY os.length) ps ps.length).bind fun s=>if kM s=true∧Nn s.1 s.2.1 s.2.2=l then some s else none
theorem tC{os v:List Int}{z:Nat}(h:Zo os v z=true):mW os v z:=by
  simp only[Zo,Bool.and_eq_true,decide_eq_true_eq,List.all_eq_true,List.mem_range,Bool.or_eq_true]at h;exact⟨h.1,fun k hk=>⟨(h.2 k hk).1,fun hz=>by have:=(h.2 k hk).2;omega⟩⟩
theorem VT{s:PD}(h:kM s=true):AI s.1 s.2.1 s.2.2:=by
  simp only[kM,Bool.and_eq_true,decide_eq_true_eq,List.all_eq_true,List.mem_range,Bool.or_eq_true]at h;obtain⟨⟨⟨⟨⟨h1,h2⟩,h3⟩,h4⟩,h5⟩,h6⟩:=h;refine⟨⟨h1,h2,h3⟩,fun i hi=>?_,h5,fun i hi=>⟨tC (h6 i hi).1.1,(h6 i hi).1.2,fun k hk=>tC ((h6 i hi).2 k hk)⟩⟩;have:=h4 i hi;unfold J0;omega
theorem zZ{n:Nat}{r:List UInt8}{w:List Int}(h:Ki n r=some w):ZO n (CP r)= .t [ints w,.b true]∧w.length=r.length∧∀k,k<w.length→1≤w.getD k 0∧w.getD k 0≤n:=by
  unfold Ki at h;split at h
  · rename_i hc;obtain⟨h1,h2⟩:=hc;cases h;simp only[List.all_eq_true,Bool.and_eq_true,decide_eq_true_eq]at h1;have hb:∀k,k<r.length→MN (CP r) k=((r.getD k 0).toNat:Int):=fun k hk=>by simp[MN,CP]
    have hr:∀k,k<r.length→97≤(r.getD k 0).toNat∧(r.getD k 0).toNat<97+n:=fun k hk=>by
      have:=h1 (r.getD k 0) (by simp[hk]);exact this
    have hp:∀k,k<r.length→dK n (MN (CP r) k)=some (((r.getD k 0).toNat:Int)-96):=fun k hk=>by
      rw[hb k hk,Ve (by have:=hr k hk;omega)];congr 1;omega
    have h49:¬(CP r).toList=(⟨#[49]⟩:ByteArray).toList:=by
      intro e;have e2:r=[49]:=toL_eq.1 e;have:=hr 0 (by rw[e2];decide);rw[e2]at this;simp at this
    have HX:cJ n (CP r):=fun j hj=>by rw[BB]at hj;rw[hp j hj];simp
    have hl:ZN n (CP r) (CP r).size=r.map fun b=>(b.toNat:Int)-96:=by
      rw[BB];apply List.ext_getElem?;intro k;simp only[ZN,List.getElem?_map];by_cases hk:k<r.length
      · rw[List.getElem?_range hk,Option.map_some,hp k hk,List.getElem?_eq_getElem hk];simp[hk]
      rw[List.getElem?_eq_none (by simpa using hk),List.getElem?_eq_none (by simpa using hk)];rfl
    refine⟨?_,by simp,fun k hk=>?_⟩
    · rw[kF h49 HX,lcs,hl];have nU:decide ((((CP r).size:Nat):Int)>0)=true:=by
        rw[BB,decide_eq_true_eq];have:0<r.length:=List.length_pos_iff.2 h2;omega
      rw[nU,ints,BB,List.length_map]
    rw[List.length_map]at hk;have:=hr k hk;have e:(r.map fun b=>(b.toNat:Int)-96).getD k 0=((r.getD k 0).toNat:Int)-96:=by simp[hk]
    rw[e];omega
  cases h
theorem B6.set{X:List (List Int)}{v:List Int}{k:Nat}(h:B6 X)(hv:v.length≤1048576):B6 (X.set k v):=
  ⟨by have:=h.n;simpa using this,fun x hx=>by
    rcases List.mem_or_eq_of_mem_set hx with hx|rfl
    · exact h.v x hx
    exact hv⟩
theorem E9.set{Y:List (List (List Int))}{X:List (List Int)}{k:Nat}(h:E9 Y)(hv:B6 X):E9 (Y.set k X):=
  ⟨by have:=h.n;simpa using this,fun x hx=>by
    rcases List.mem_or_eq_of_mem_set hx with hx|rfl
    · exact h.v x hx
    exact hv⟩
theorem Km{α:Type}{L:List α}{k i:Nat}{x d:α}:(L.set k x).getD i d=if k=i∧i<L.length then x else L.getD i d:=by
  rw[List.getD_eq_getElem?_getD,List.getElem?_set];by_cases h:k=i
  · subst h;by_cases h2:k<L.length
    · simp[h2]
    simp[h2]
  simp[h]
theorem Aa{s s2:PD}{l:List UInt8}{n:Nat}(h:Kj s l=some s2)(hll:l.length≤1048576)(hn:n≤6)(hs:Vf n s.1 s.2.1 s.2.2)(ho:∀i,i<n→0≤s.1.getD i 0∧s.1.getD i 0<10):
    BG Tryz.prog 162 [A8 s.1 s.2.1 s.2.2,.s (CP l)] (.t [A8 s2.1 s2.2.1 s2.2.2,.b true])∧Vf n s2.1 s2.2.1 s2.2.2∧s2.1=s.1:=by
  have A2O:=hs.o;unfold Kj at h;split at h
  · rename_i a x b y r Bj;split at h
    · rename_i hc;obtain⟨rfl,rfl,mZ,iQ⟩:=hc;obtain⟨w,hw,h⟩:=Option.bind_eq_some_iff.1 h;obtain⟨sP,n5,Vg⟩:=zZ hw;rw[A2O]at iQ sP Vg h;have uB:=ZI 61 l;rw[Bj]at uB;have I3:r.length≤l.length:=by rw[←uB];simp[aB];omega
      have hxi:(x.toNat:Int)=97+((x.toNat-97:Nat):Int):=by omega
      have wW:(XB n w).length≤1048576:=by rw[VH];omega
      split at h
      · rename_i hd;cases h;refine⟨IK n s.1 s.2.1 s.2.2 hn hs ho l r x y (by omega) (by omega) Bj w (by omega) sP Vg (x.toNat-97) hxi iQ _ _ _ (.inl ⟨?_,rfl⟩),⟨hs.o,by simpa using hs.p,hs.c,hs.r,hs.pl.set wW,hs.cl⟩,rfl⟩;rw[mF,toL_eq];exact hd
      rename_i hd;split at h
      · rename_i hy;cases h;have Aq:B6 (s.2.2.getD (y.toNat-97) []):=IA hs.cl.v .nil _;refine⟨IK n s.1 s.2.1 s.2.2 hn hs ho l r x y (by omega) (by omega) Bj w (by omega) sP Vg (x.toNat-97) hxi iQ _ _ _ (.inr ⟨?_,y.toNat-97,by omega,hy.2,rfl⟩),⟨hs.o,hs.p,by simpa using hs.c,fun i hi=>?_,hs.pl,hs.cl.set (Aq.set wW)⟩,rfl⟩
        · rw[mF,toL_eq];exact hd
        rw[Km];split
        · rename_i e;rw[List.length_set,e.1];exact hs.r i hi
        exact hs.r i hi
      cases h
    cases h
  cases h
theorem tD{s:PD}{ps:List (List UInt8)}:∀(d k:Nat) {t:PD},Kk s ps (k+d)=some t→∃u,Kk s ps k=some u:=by
  intro d;induction d with
  |zero=>intro k t h;exact⟨t,h⟩
  | succ d ih=>
    intro k t h;rw[Nat.add_succ,Kk]at h;obtain⟨u,hu,_⟩:=Option.bind_eq_some_iff.1 h;exact ih k hu
theorem Vy(os:List Int)(h:os.length≤6):Vf os.length os (L2 os.length) (HY os.length):=by
  refine⟨rfl,TT _,TS _,fun i hi=>?_,⟨by rw[TT];omega,fun x hx=>?_⟩,⟨by rw[TS];omega,fun x hx=>?_⟩⟩
  · have:(HY os.length).getD i []=lY os.length i:=by simp[HY,hi]
    rw[this,Q6];omega
  · rw[L2]at hx;rw[List.eq_of_mem_replicate hx];simp;omega
  rw[HY,List.mem_map]at hx;obtain⟨i,_,rfl⟩:=hx;refine⟨by rw[Q6];omega,fun y hy=>?_⟩;rw[lY,List.mem_map]at hy;obtain⟨j,_,rfl⟩:=hy;rw[NB];omega
theorem Ab(c:UInt8)(l:List UInt8):∀p∈QE c l,p.length≤l.length:=by
  have h:∀ps:List (List UInt8),∀p∈ps,p.length≤(aB c ps).length:=by
    intro ps;induction ps with
    |nil=>intro p hp;cases hp
    | cons q ps ih=>
      intro p hp;cases ps with
      | nil=>
        rcases List.mem_cons.1 hp with rfl|hp
        · exact Nat.le_refl _
        cases hp
      | cons r rs=>
        rw[aB,List.length_append,List.length_cons];rcases List.mem_cons.1 hp with rfl|hp
        · omega
        have:=ih p hp;omega
  intro p hp;have:=h (QE c l) p hp;rwa [ZI]at this
theorem mG(a:List UInt8):(a !=a)=false:=by simp
set_option maxHeartbeats 8000000 in
theorem IV(l:List UInt8)(s2:PD)(hl:l.length≤1048576)(h:Kl l=some s2):BG Tryz.prog 158 [.s (CP l)] (.t [A8 s2.1 s2.2.1 s2.2.2,.i .i64 0]):=by
 have mE:BG Tryz.prog 160 [.s (CP l),.i .u8 59] (strs ((QE 59 l).map CP)):=by
  have:=GI (CP l) 59 (by rw[BB];omega);rwa [kD]at this
 have XI:=Ab 59 l
 have Uq:(QE 59 l).length≤1048577:=by
  have:=kB 59 (CP l);rw[kD,List.length_map]at this;have h2:=sE 59 (CP l);rw[BB]at h2;omega
 unfold Kl at h
 generalize Tb:QE 59 l=ps0 at h mE XI Uq
 rcases ps0 with _|⟨hd,ps⟩
 ·cases h
 obtain⟨os,OI,h⟩:=Option.bind_eq_some_iff.1 h
 obtain⟨s,EM,h⟩:=Option.bind_eq_some_iff.1 h
 have YA:kM s=true∧Nn s.1 s.2.1 s.2.2=l:=by
  apply Classical.byContradiction;intro hn;rw[if_neg hn]at h;cases h
 rw[if_pos YA]at h
 cases h
 have LK:=VT YA.1
 have A3Z:ps.length≤1048577:=by rw[List.length_cons]at Uq;omega
 have Kn:os.length≤6∧∀i,i<os.length→0≤os.getD i 0∧os.getD i 0<10:=by
  have h2:=OI;unfold tA at h2;split at h2
  ·cases h2;exact⟨by simp,fun i hi=>by simp at hi⟩
  obtain⟨ds,vR,h3⟩:=Option.bind_eq_some_iff.1 h2;split at h3
  ·rename_i hc;cases h3;obtain⟨g1,g2⟩:=cR vR;exact⟨hc.1,fun i hi=>by have:=D0 (VQ (g2 i (by omega))).2;omega⟩
  cases h3
 have gO:=QF hd os (by have:=XI hd (by simp);omega) OI
 refine BG.GD A9 Tryz.func158 rfl (by kernel_rfl) Tryz.ntmps158 Tryz.results158 ((Vx (sO _ _ _) _)) (fun nx cX=>?_)
 refine sQ fun N hN=>?_;simp-dsimp-implicitDefEqProofs(disch:=omega)only[go_sem,A8];apply hN;refine sQ fun N hN=>?_;simp-dsimp-implicitDefEqProofs(disch:=omega)only[go_sem,A8];refine AC.pure (.of (mE)) ?_;try simp-dsimp-implicitDefEqProofs(disch:=omega)only[go_sem,A8]
 apply hN;refine sQ fun N hN=>?_;simp-dsimp-implicitDefEqProofs(disch:=omega)only[go_sem,A8,strs];refine AC.pure (.of (gO)) ?_;try simp-dsimp-implicitDefEqProofs(disch:=omega)only[go_sem,A8]
 apply hN;refine AW.seq fun N1 BC=>?_;refine sQ fun N hN=>?_;simp-dsimp-implicitDefEqProofs(disch:=omega)only[go_sem,A8];apply hN;refine AW.C8 rfl ?_;apply AW.skip;apply BC;refine sQ fun N hN=>?_;simp-dsimp-implicitDefEqProofs(disch:=omega)only[go_sem,A8];refine AC.pure (.of ((Q7 os (by omega)).pure)) ?_;try simp-dsimp-implicitDefEqProofs(disch:=omega)only[go_sem,A8]
 apply hN;refine AW.seq fun N2 BM=>?_;refine sQ fun N hN=>?_;simp-dsimp-implicitDefEqProofs(disch:=omega)only[go_sem,A8];apply hN;apply AW.block;refine AW.AF (α:=Nat×PD) (fun x=>sl 52 [(0,.s (CP l)),(2,.q nx 0),(4,strs ((hd::ps).map CP)),(7,.q (nx+2+3+9+2+2) 0),(8,.i .i64 ((x.1+1:Nat):Int))]) (fun x=>AU (AU BN nx (some [.nl,.nl,.nl])) (nx+2+3+9+2+2) (some [ints x.2.1,rows x.2.2.1,A4 x.2.2.2])) (fun x m=>x.1≤ps.length∧Kk (os,L2 os.length,HY os.length) ps x.1=some x.2∧Vf os.length x.2.1 x.2.2.1 x.2.2.2∧x.2.1=os) (fun x=>ps.length-x.1) ((0,(os,L2 os.length,HY os.length))) ?_ ?_ (by intro d cs hd;exact hd) ?_
 ·exact⟨by simp,rfl,Vy os Kn.1,rfl⟩
 ·simp(disch:=omega) [AO,AQ,sl,strs]
 skip
 rintro⟨k,s⟩ m ⟨hk,Bk,tE,Cp⟩
 simp-dsimp-implicitDefEqProofs(disch:=omega)only[go_sem];dsimp only at hk Bk tE Cp ⊢
 refine AW.seq fun N3 BQ=>?_;refine sQ fun N hN=>?_;simp-dsimp-implicitDefEqProofs(disch:=omega)only[go_sem,A8,strs];apply hN;refine AW.cond rfl ?_ ?_<;>intro h1
 ·try simp only[cn]at h1
  have L4:k<ps.length:=by omega
  obtain⟨u,hu⟩:=tD (s:=(os,L2 os.length,HY os.length)) (ps:=ps) (ps.length-(k+1)) (k+1) (t:=s2) (by rw[show k+1+(ps.length-(k+1))=ps.length by omega];exact EM);have n8:=hu;rw[Kk,Bk]at n8;obtain⟨A2P,Vz,A2Q⟩:=Aa (n:=os.length) n8 (by have:=XI (ps.getD k []) (by simp[L4]);omega) Kn.1 tE (by rw[Cp];exact Kn.2);have hg:=cI ps (k:=k) L4;apply AW.skip;apply BQ;refine AW.seq fun N4 CG=>?_;apply AW.block;refine AW.seq fun N hN=>?_;refine AW.KX A9 (by kernel_rfl) [false,true,true,true,true,false,false,false,false,false,false] (.br 0 (.br 5 (.br 6 (.br 7 (.br 8 (.br 9 (.br 10 .nil .nil) .nil) (.br 9 (.br 8 (.br 10 .nil .nil) .nil) .nil)) (.br 8 (.br 7 (.br 9 (.br 10 .nil .nil) .nil) .nil) .nil)) .nil) .nil) .nil) (by kernel_rfl) ?_
  simp-dsimp-implicitDefEqProofs(disch:=omega)only[go_sem,A8,↓jB,↓jC,↓jD,strs,hg,Int.toNat_natCast];refine AC.pure (.of (A2P)) ?_;try simp-dsimp-implicitDefEqProofs(disch:=omega)only[go_sem,A8,strs,and_self]
  apply hN;refine sQ fun N hN=>?_;simp-dsimp-implicitDefEqProofs(disch:=omega)only[go_sem,A8];apply hN;refine AW.C8 rfl ?_;apply AW.skip;apply CG;apply rQ;simp-dsimp-implicitDefEqProofs(disch:=omega)only[go_sem,A8];refine⟨(k+1,u),?_,by intro d cs hd;simp only[AU]at hd ⊢;grind,?_,?_⟩
  ·simp(disch:=omega) [AO,AQ,sl,strs,AJ]<;>rw[AJ (by omega) (by omega)]
  ·exact⟨by first|omega|(dsimp only;omega),hu,Vz,A2Q.trans Cp⟩
  first|omega|(simp only;omega)
 try simp only[cn]at h1
 have W8:k=ps.length:=by omega
 rw[W8,EM]at Bk
 cases Bk
 have yS:tf (AI s2.1 s2.2.1 s2.2.2)=true:=EN LK
 have hip:=D5 s2.1 s2.2.1 s2.2.2 ⟨by have:=tE.o;omega,MY.of tE.pl tE.cl⟩
 rw[yS]at hip
 have htx:=SS s2.1 s2.2.1 s2.2.2 LK
 rw[YA.2]at htx
 apply AW.exit;apply BM;refine AW.seq fun N5 DW=>?_;refine sQ fun N hN=>?_;simp-dsimp-implicitDefEqProofs(disch:=omega)only[go_sem,A8];refine AC.pure (.of (hip)) ?_;try simp-dsimp-implicitDefEqProofs(disch:=omega)only[go_sem,A8,Bool.not_true]
 refine AC.pure (.of (htx)) ?_;try simp-dsimp-implicitDefEqProofs(disch:=omega)only[go_sem,A8,mG,beq_self_eq_true,Bool.not_true,decide_true,decide_not,decide_false,bne_self_eq_false]
 apply hN;refine AW.C8 rfl ?_;apply AW.skip;apply DW;refine sQ fun N hN=>?_;simp-dsimp-implicitDefEqProofs(disch:=omega)only[go_sem,A8];apply hN;apply AW.ret;simp-dsimp-implicitDefEqProofs(disch:=omega)only[go_sem];exact .refl _
theorem Ko{l:List UInt8}{s2:PD}(h:Kl l=some s2):AI s2.1 s2.2.1 s2.2.2∧Nn s2.1 s2.2.1 s2.2.2=l:=by
  unfold Kl at h;split at h
  · cases h
  obtain⟨os,OI,h⟩:=Option.bind_eq_some_iff.1 h;obtain⟨s,EM,h⟩:=Option.bind_eq_some_iff.1 h;split at h
  · rename_i hc;cases h;exact⟨VT hc.1,hc.2⟩
  cases h
end Go.Proofs.YtghmeeifjeafmaaGreat
