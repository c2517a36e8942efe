import Derived.Test.YtghmeeifjeafmaaGreatZ29
import Derived.Test.YtghmeeifjeafmaaGreatZ30
set_option linter.unusedVariables false
set_option linter.unusedSimpArgs false
namespace Go.Proofs.YtghmeeifjeafmaaGreat
def MN(s:ByteArray)(i:Nat):Int:=((s.data.getD i 0).toNat:Int)
theorem fL(s:ByteArray)(i:Nat):0≤MN s i∧MN s i≤255:=by
  have:=(s.data.getD i 0).toNat_lt;unfold MN;omega
def NV(s:ByteArray):Nat→Int
  |0=>0
  |i+1=>10*NV s i+(MN s i-48)
def FF(s:ByteArray)(i:Nat):Prop:=48≤MN s i∧MN s i≤57
def Vd(s:ByteArray):Prop:=∀i,i<s.size→FF s i
open Classical in
noncomputable def ZJ(s:ByteArray):Int:=
  if s.size=0∨6<s.size∨(1<s.size∧MN s 0=48)then-1 else if Vd s then NV s s.size else-1
theorem zH{s:ByteArray}:∀i,(∀j,j<i→FF s j)→0≤NV s i∧NV s i<10^i:=by
  intro i;induction i with
  |zero=>intro _;rw[NV];exact⟨by decide,by decide⟩
  | succ i ih=>
    intro h;have h1:=ih (fun j hj=>h j (by omega));have h2:=h i (by omega);have h3:(10:Int)^(i+1)=10*10^i:=by rw[Int.pow_succ];omega
    unfold FF at h2;rw[NV,h3];omega
theorem sL{s:ByteArray}{i:Nat}(hi:i≤6)(h:∀j,j<i→FF s j):0≤NV s i∧NV s i<1000000:=by
  have h1:=zH i h;have h2:(10:Int)^i≤1000000:=by
    match i,hi with
    |0,_=>decide
    |1,_=>decide
    |2,_=>decide
    |3,_=>decide
    |4,_=>decide
    |5,_=>decide
    |6,_=>decide
  omega
theorem ZK{s:ByteArray}(h:s.size=0∨6<s.size∨(1<s.size∧MN s 0=48)):ZJ s= -1:=by rw[ZJ,if_pos h]
theorem ZL{s:ByteArray}{k:Nat}(hk:k<s.size)(h:¬FF s k):ZJ s= -1:=by
  rw[ZJ];split
  · rfl
  rw[if_neg (fun hd=>h (hd k hk))]
theorem ZM{s:ByteArray}(h:¬(s.size=0∨6<s.size∨(1<s.size∧MN s 0=48)))(hd:∀j,j<s.size→FF s j):ZJ s=NV s s.size:=by
  rw[ZJ,if_neg h];exact if_pos (show Vd s from hd)
theorem sM{s:ByteArray}{k:Nat}(hd:∀j,j<k→FF s j)(hk:FF s k):∀j,j<k+1→FF s j:=by
  intro j hj;by_cases e:j=k
  · subst e;exact hk
  exact hd j (by omega)
theorem w8{n:Int}(h0:0≤n)(h1:n≤255):IntKind.u8.wrap n=n:=by
  simp only[IntKind.wrap,IntKind.bits,IntKind.signed,Bool.false_and,Bool.false_eq_true,if_false];omega
set_option maxHeartbeats 2000000 in theorem RK (s:ByteArray):BG Tryz.prog 164 [.s s] (.i .i64 (ZJ s)):=by
 refine BG.AM A9 Tryz.func164 rfl (by kernel_rfl) Tryz.ntmps164 Tryz.results164 (.i _ _) (fun nx cX=>?_)
 refine sQ fun N hN=>?_;simp-dsimp-implicitDefEqProofs(disch:=omega)only[go_sem];apply hN;refine AW.seq fun N1 BC=>?_;refine sQ fun N hN=>?_;simp-dsimp-implicitDefEqProofs(disch:=omega)only[go_sem];refine C9.mk' (fun h1=>?_) (fun h1=>?_)
 ·try simp only[cn]at h1
  try simp-dsimp-implicitDefEqProofs(disch:=omega)only[go_sem]
  refine C9.mk' (fun h2=>?_) (fun h2=>?_)
  ·try simp only[cn]at h2
   try simp-dsimp-implicitDefEqProofs(disch:=omega)only[go_sem]
   refine C9.mk' (fun h3=>?_) (fun h3=>?_)
   ·(try simp only[cn]at h3);try simp-dsimp-implicitDefEqProofs(disch:=omega)only[go_sem]
    apply hN;refine AW.cond rfl ?_ ?_<;>intro h4
    ·(try simp only[cn]at h4);refine sQ fun N hN=>?_;simp-dsimp-implicitDefEqProofs(disch:=omega)only[go_sem];apply hN;apply AW.ret;simp-dsimp-implicitDefEqProofs(disch:=omega)only[go_sem];exact congrArg _ (ZK (.inr (.inr ⟨by omega,h4⟩))).symm
    (try simp only[cn]at h4);have LK:¬(s.size=0∨6<s.size∨(1<s.size∧MN s 0=48)):=by
     rintro(h|h|⟨_,h⟩)
     ·omega
     ·omega
     exact h4 h
    apply AW.skip;apply BC;refine sQ fun N hN=>?_;simp-dsimp-implicitDefEqProofs(disch:=omega)only[go_sem];apply hN;refine AW.seq fun N2 BM=>?_;refine sQ fun N hN=>?_;simp-dsimp-implicitDefEqProofs(disch:=omega)only[go_sem];apply hN;apply AW.block;refine AW.AF (α:=Nat) (fun x=>sl 48 [(0,.s s),(3,.i .i64 (NV s x)),(4,.i .i64 x)]) (fun _=>BN) (fun x m=>x≤s.size∧∀j,j<x→FF s j) (fun x=>s.size-x) (0) ?_ ?_ (fun _ _ h=>h) ?_
    ·exact⟨by omega,by intro j hj;omega⟩
    ·simp(disch:=omega) [AO,AQ,sl,NV]
    skip
    rintro k m ⟨hk,hd⟩;have hv:=sL (s:=s) (i:=k) (by omega) hd;have hb:=fL s k;refine AW.seq fun N3 BQ=>?_;refine sQ fun N hN=>?_;simp-dsimp-implicitDefEqProofs(disch:=omega)only[go_sem];apply hN;refine AW.cond rfl ?_ ?_<;>intro h5
    ·(try simp only[cn]at h5);have EX:k<s.size:=by omega
     apply AW.skip;apply BQ;refine AW.seq fun N4 CG=>?_;apply AW.block;refine AW.seq fun N5 DW=>?_;refine sQ fun N hN=>?_;simp-dsimp-implicitDefEqProofs(disch:=omega)only[go_sem];refine C9.mk' (fun h6=>?_) (fun h6=>?_)
     ·(try simp only[cn]at h6);try simp-dsimp-implicitDefEqProofs(disch:=omega)only[go_sem]
      apply hN;refine AW.cond rfl ?_ ?_<;>intro h7
      ·(try simp only[cn]at h7);refine sQ fun N hN=>?_;simp-dsimp-implicitDefEqProofs(disch:=omega)only[go_sem];apply hN;apply AW.ret;simp-dsimp-implicitDefEqProofs(disch:=omega)only[go_sem];exact congrArg _ (ZL EX (fun hd=>by unfold FF MN at hd;omega)).symm
      (try simp only[cn]at h7);have kX:FF s k:=by unfold FF MN;omega
      apply AW.skip;apply DW;apply rQ;simp-dsimp-implicitDefEqProofs(disch:=omega)only[go_sem,w8];apply CG;apply rQ;simp-dsimp-implicitDefEqProofs(disch:=omega)only[go_sem];refine⟨k+1,?_,fun _ _ h=>h,?_,?_⟩
      ·simp(disch:=omega) [AO,AQ,sl,NV,MN,AJ,w8]
      ·exact⟨by omega,sM hd kX⟩
      first|omega|(simp only;omega)
     (try simp only[cn]at h6);try simp-dsimp-implicitDefEqProofs(disch:=omega)only[go_sem]
     apply hN;refine AW.DX rfl ?_;refine sQ fun N hN=>?_;simp-dsimp-implicitDefEqProofs(disch:=omega)only[go_sem];apply hN;apply AW.ret;simp-dsimp-implicitDefEqProofs(disch:=omega)only[go_sem];exact congrArg _ (ZL EX (fun hd=>by unfold FF MN at hd;omega)).symm
    (try simp only[cn]at h5);obtain rfl:k=s.size:=by omega
    apply AW.exit;apply BM;refine sQ fun N hN=>?_;simp-dsimp-implicitDefEqProofs(disch:=omega)only[go_sem,w8];apply hN;apply AW.ret;simp-dsimp-implicitDefEqProofs(disch:=omega)only[go_sem];exact congrArg _ (ZM LK hd).symm
   try simp only[cn]at h3
   have LK:¬(s.size=0∨6<s.size∨(1<s.size∧MN s 0=48)):=by
    rintro(h|h|⟨h,_⟩)<;>omega
   try simp-dsimp-implicitDefEqProofs(disch:=omega)only[go_sem]
   apply hN;refine AW.C8 rfl ?_;apply AW.skip;apply BC;refine sQ fun N hN=>?_;simp-dsimp-implicitDefEqProofs(disch:=omega)only[go_sem];apply hN;refine AW.seq fun N6 HC=>?_;refine sQ fun N hN=>?_;simp-dsimp-implicitDefEqProofs(disch:=omega)only[go_sem];apply hN;apply AW.block;refine AW.AF (α:=Nat) (fun x=>sl 48 [(0,.s s),(3,.i .i64 (NV s x)),(4,.i .i64 x)]) (fun _=>BN) (fun x m=>x≤s.size∧∀j,j<x→FF s j) (fun x=>s.size-x) (0) ?_ ?_ (fun _ _ h=>h) ?_
   ·exact⟨by omega,by intro j hj;omega⟩
   ·simp(disch:=omega) [AO,AQ,sl,NV]
   skip
   rintro k m ⟨hk,hd⟩;have hv:=sL (s:=s) (i:=k) (by omega) hd;have hb:=fL s k;refine AW.seq fun N7 JO=>?_;refine sQ fun N hN=>?_;simp-dsimp-implicitDefEqProofs(disch:=omega)only[go_sem];apply hN;refine AW.cond rfl ?_ ?_<;>intro h8
   ·(try simp only[cn]at h8);have EX:k<s.size:=by omega
    apply AW.skip;apply JO;refine AW.seq fun N8 JJ=>?_;apply AW.block;refine AW.seq fun N9 M6=>?_;refine sQ fun N hN=>?_;simp-dsimp-implicitDefEqProofs(disch:=omega)only[go_sem];refine C9.mk' (fun h9=>?_) (fun h9=>?_)
    ·(try simp only[cn]at h9);try simp-dsimp-implicitDefEqProofs(disch:=omega)only[go_sem]
     apply hN;refine AW.cond rfl ?_ ?_<;>intro LU
     ·(try simp only[cn]at LU);refine sQ fun N hN=>?_;simp-dsimp-implicitDefEqProofs(disch:=omega)only[go_sem];apply hN;apply AW.ret;simp-dsimp-implicitDefEqProofs(disch:=omega)only[go_sem];exact congrArg _ (ZL EX (fun hd=>by unfold FF MN at hd;omega)).symm
     (try simp only[cn]at LU);have kX:FF s k:=by unfold FF MN;omega
     apply AW.skip;apply M6;apply rQ;simp-dsimp-implicitDefEqProofs(disch:=omega)only[go_sem,w8];apply JJ;apply rQ;simp-dsimp-implicitDefEqProofs(disch:=omega)only[go_sem];refine⟨k+1,?_,fun _ _ h=>h,?_,?_⟩
     ·simp(disch:=omega) [AO,AQ,sl,NV,MN,AJ,w8]
     ·exact⟨by omega,sM hd kX⟩
     first|omega|(simp only;omega)
    (try simp only[cn]at h9);try simp-dsimp-implicitDefEqProofs(disch:=omega)only[go_sem]
    apply hN;refine AW.DX rfl ?_;refine sQ fun N hN=>?_;simp-dsimp-implicitDefEqProofs(disch:=omega)only[go_sem];apply hN;apply AW.ret;simp-dsimp-implicitDefEqProofs(disch:=omega)only[go_sem];exact congrArg _ (ZL EX (fun hd=>by unfold FF MN at hd;omega)).symm
   try simp only[cn]at h8
   obtain rfl:k=s.size:=by omega
   apply AW.exit;apply HC;refine sQ fun N hN=>?_;simp-dsimp-implicitDefEqProofs(disch:=omega)only[go_sem,w8];apply hN;apply AW.ret;simp-dsimp-implicitDefEqProofs(disch:=omega)only[go_sem];exact congrArg _ (ZM LK hd).symm
  try simp only[cn]at h2
  try simp-dsimp-implicitDefEqProofs(disch:=omega)only[go_sem]
  apply hN;refine AW.DX rfl ?_;refine sQ fun N hN=>?_;simp-dsimp-implicitDefEqProofs(disch:=omega)only[go_sem];apply hN;apply AW.ret;simp-dsimp-implicitDefEqProofs(disch:=omega)only[go_sem];exact congrArg _ (ZK (.inr (.inl (by omega)))).symm
 try simp only[cn]at h1
 try simp-dsimp-implicitDefEqProofs(disch:=omega)only[go_sem]
 apply hN;refine AW.DX rfl ?_;refine sQ fun N hN=>?_;simp-dsimp-implicitDefEqProofs(disch:=omega)only[go_sem];apply hN;apply AW.ret;simp-dsimp-implicitDefEqProofs(disch:=omega)only[go_sem];exact congrArg _ (ZK (.inl (by omega))).symm
end Go.Proofs.YtghmeeifjeafmaaGreat
namespace Go.Proofs.YtghmeeifjeafmaaGreat
def dK(n b:Int):Option Int:=if 1≤b-97+1∧b-97+1≤n then some (b-97+1)else if 1≤b-65+1∧b-65+1≤n then some (-(b-65+1))else none
def ZN(n:Int)(s:ByteArray)(i:Nat):List Int:=(List.range i).map fun j=>(dK n (MN s j)).getD 0
def cJ(n:Int)(s:ByteArray):Prop:=∀j,j<s.size→dK n (MN s j)≠none
open Classical in
noncomputable def zI(n:Int)(s:ByteArray):List Int:=if s.toList=(⟨#[49]⟩:ByteArray).toList then []else if cJ n s then ZN n s s.size else []
open Classical in
noncomputable def zL(n:Int)(s:ByteArray):Bool:=if s.toList=(⟨#[49]⟩:ByteArray).toList then true else if cJ n s then decide ((s.size:Int)>0)else false
noncomputable def ZO(n:Int)(s:ByteArray):AV:= .t [ints (zI n s),.b (zL n s)]
theorem sN{x:AV}(h:NR x)(e:Bool):NR (.t [x,.b e]):= .t _ fun k y hk=>by
  match k,hk with
  |0,hk=>cases hk;exact h
  |1,hk=>cases hk;exact .b _
theorem VG{H:HP}{a b x:AV}(h:Vw H a b):Vw H (.t [a,x]) (.t [b,x]):= .t _ _ rfl fun k u v hu hv=>by
  match k,hu,hv with
  |0,hu,hv=>cases hu;cases hv;exact h
  |1,hu,hv=>cases hu;cases hv;exact .refl _
theorem cK(n:Int)(s:ByteArray)(i:Nat):(ZN n s i).length=i:=by simp[ZN]
theorem Jw{n:Int}{s:ByteArray}{i:Nat}{l:Int}(h:dK n (MN s i)=some l):ZN n s (i+1)=ZN n s i++[l]:=by
  rw[ZN,List.range_succ,List.map_append,List.map_cons,List.map_nil,h];rfl
theorem fM(a:List Int):NR (ints a):= .v _ _ fun k x h=>by
  rw[List.getElem?_map]at h;obtain⟨y,_,rfl⟩:=Option.map_eq_some_iff.1 h;exact .i _ _
noncomputable def lcs(n:Int)(s:ByteArray)(i:Nat):List AV:=(ZN n s i).map (.i .i64)
theorem ZP(n:Int)(s:ByteArray)(i:Nat):(lcs n s i).length=i:=by rw[lcs,List.length_map,cK]
theorem Ci{n:Int}{s:ByteArray}{i:Nat}{l:Int}(h:dK n (MN s i)=some l):lcs n s (i+1)=lcs n s i++[.i .i64 l]:=by
  rw[lcs,Jw h,List.map_append];rfl
theorem Ve{n b:Int}(h:1≤b-97+1∧b-97+1≤n):dK n b=some (b-97+1):=by rw[dK,if_pos h]
theorem A2C{n b:Int}(h:¬(1≤b-97+1∧b-97+1≤n))(h2:1≤b-65+1∧b-65+1≤n):dK n b=some (-(b-65+1)):=by rw[dK,if_neg h,if_pos h2]
theorem A2D{n b:Int}(h:¬(1≤b-97+1∧b-97+1≤n))(h2:¬(1≤b-65+1∧b-65+1≤n)):dK n b=none:=by rw[dK,if_neg h,if_neg h2]
theorem zM{n:Int}{s:ByteArray}(h:s.toList=(⟨#[49]⟩:ByteArray).toList):ZO n s= .t [ints [],.b true]:=by rw[ZO,zI,zL,if_pos h,if_pos h]
theorem Jx{n:Int}{s:ByteArray}{k:Nat}(h:¬s.toList=(⟨#[49]⟩:ByteArray).toList)(hk:k<s.size)(hn:dK n (MN s k)=none):ZO n s= .t [ints [],.b false]:=by
  have:¬cJ n s:=fun ha=>ha k hk hn
  rw[ZO,zI,zL,if_neg h,if_neg h,if_neg this,if_neg this]
theorem kF{n:Int}{s:ByteArray}(h:¬s.toList=(⟨#[49]⟩:ByteArray).toList)(ha:cJ n s):ZO n s= .t [.v s.size (lcs n s s.size),.b (decide ((s.size:Int)>0))]:=by
  rw[ZO,zI,zL,if_neg h,if_neg h,if_pos ha,if_pos ha,ints,cK];rfl
theorem Cj{n:Int}{s:ByteArray}{k:Nat}{l:Int}(hd:∀j,j<k→dK n (MN s j)≠none)(h:dK n (MN s k)=some l):∀j,j<k+1→dK n (MN s j)≠none:=by
  intro j hj;by_cases e:j=k
  · subst e;rw[h];simp
  exact hd j (by omega)
set_option maxHeartbeats 4000000 in theorem RL (n:Int) (s:ByteArray) (hs:s.size≤2097152):BG Tryz.prog 165 [.i .i64 n,.s s] (ZO n s):=by
 refine BG.GD A9 Tryz.func165 rfl (by kernel_rfl) Tryz.ntmps165 Tryz.results165 ((sN (fM _) _)) (fun nx cX=>?_)
 refine sQ fun N hN=>?_;simp-dsimp-implicitDefEqProofs(disch:=omega)only[go_sem];apply hN;refine AW.seq fun N1 BC=>?_;refine sQ fun N hN=>?_;simp-dsimp-implicitDefEqProofs(disch:=omega)only[go_sem];apply hN;refine AW.cond rfl ?_ ?_<;>intro h1
 ·try simp only[cn]at h1
  refine sQ fun N hN=>?_;simp-dsimp-implicitDefEqProofs(disch:=omega)only[go_sem];apply hN;apply AW.ret;simp-dsimp-implicitDefEqProofs(disch:=omega)only[go_sem];rw[zM h1];exact VG (ZG (cs:=[]) rfl)
 try simp only[cn]at h1
 apply AW.skip;apply BC;refine sQ fun N hN=>?_;simp-dsimp-implicitDefEqProofs(disch:=omega)only[go_sem];apply hN;refine AW.seq fun N2 BM=>?_;refine sQ fun N hN=>?_;simp-dsimp-implicitDefEqProofs(disch:=omega)only[go_sem];apply hN;apply AW.block;refine AW.AF (α:=Nat×Nat) (fun x=>sl 53 [(0,.i .i64 n),(1,.s s),(6,.h x.2 0 x.1),(7,.i .i64 x.1)]) (fun x=>AU BN x.2 (some (lcs n s x.1))) (fun x m=>x.1≤s.size∧x.2<m∧∀j,j<x.1→dK n (MN s j)≠none) (fun x=>s.size-x.1) ((0,_)) ?_ ?_ (VF (A1 _ _ _)) ?_
 ·exact⟨by simp only;omega,by first|omega|(dsimp only;omega),by intro j hj;simp only at hj;omega⟩
 ·simp(disch:=omega) [AO,AQ,sl,AJ,ints,rows,A4,AJ]<;>omega
 skip
 rintro⟨k,id⟩ m ⟨hk,DA,hd⟩
 simp only at hk DA hd ⊢
 have hb:=fL s k
 have tR:0≤((s.data.getD k 0).toNat:Int)∧((s.data.getD k 0).toNat:Int)≤255:=hb
 have g1:(k+1)*8≤140737488355328:=by omega
 have g2:k+1≤9223372036854775807:=by omega
 have hle:k≤(lcs n s k).length:=by rw[ZP];exact Nat.le_refl _
 have mQ:List.take k (lcs n s k)=lcs n s k:=List.take_of_length_le (by rw[ZP];omega)
 refine AW.seq fun N3 BQ=>?_;refine sQ fun N hN=>?_;simp-dsimp-implicitDefEqProofs(disch:=omega)only[go_sem];apply hN;refine AW.cond rfl ?_ ?_<;>intro h2
 ·try simp only[cn]at h2
  have EX:k<s.size:=by omega
  apply AW.skip;apply BQ;refine AW.seq fun N4 CG=>?_;apply AW.block;refine AW.seq fun N hN=>?_;refine AW.BI A9 (by kernel_rfl) 14 (by kernel_rfl) ?_
  simp-dsimp-implicitDefEqProofs(disch:=omega)only[B3,B4,BH,List.take_succ_cons,List.take_zero,List.drop_succ_cons,List.drop_zero,List.take_nil,List.drop_nil,go_sem,undef,AJ];apply hN;apply AW.block;refine sQ fun N hN=>?_;simp-dsimp-implicitDefEqProofs(disch:=omega)only[go_sem];refine AC.pure (.of (GM _ 1 n)) ?_;try simp-dsimp-implicitDefEqProofs(disch:=omega)only[go_sem]
  apply hN;refine AW.cond rfl ?_ ?_<;>intro h3
  ·try simp only[cn]at h3
   have hl:=Ve (b:=MN s k) ⟨h3.1,h3.2⟩;apply rQ;simp-dsimp-implicitDefEqProofs(disch:=omega)only[go_sem,mQ,g1,g2,hle];apply CG;apply rQ;simp-dsimp-implicitDefEqProofs(disch:=omega)only[go_sem];refine⟨(k+1,_),?_,by rw[Ci hl];exact VF (A1 _ _ _),?_,?_⟩
   ·simp(disch:=omega) [AO,AQ,sl,AJ,ints,rows,A4,AJ]<;>omega
   ·exact⟨by simp only;omega,by first|omega|(dsimp only;omega),Cj hd hl⟩
   first|omega|(simp only;omega)
  try simp only[cn]at h3
  refine sQ fun N hN=>?_;simp-dsimp-implicitDefEqProofs(disch:=omega)only[go_sem];refine AC.pure (.of (GM _ 1 n)) ?_;try simp-dsimp-implicitDefEqProofs(disch:=omega)only[go_sem]
  apply hN;refine AW.cond rfl ?_ ?_<;>intro h4
  ·try simp only[cn]at h4
   have hl:=(A2C (b:=MN s k) h3 ⟨h4.1,h4.2⟩).trans (congrArg some (Int.zero_sub _).symm);apply rQ;simp-dsimp-implicitDefEqProofs(disch:=omega)only[go_sem,mQ,g1,g2,hle];apply CG;apply rQ;simp-dsimp-implicitDefEqProofs(disch:=omega)only[go_sem];refine⟨(k+1,_),?_,by rw[Ci hl];exact VF (A1 _ _ _),?_,?_⟩
   ·simp(disch:=omega) [AO,AQ,sl,AJ,ints,rows,A4,AJ]<;>omega
   ·exact⟨by simp only;omega,by first|omega|(dsimp only;omega),Cj hd hl⟩
   first|omega|(simp only;omega)
  try simp only[cn]at h4
  refine sQ fun N hN=>?_;simp-dsimp-implicitDefEqProofs(disch:=omega)only[go_sem];apply hN;apply AW.ret;simp-dsimp-implicitDefEqProofs(disch:=omega)only[go_sem];rw[Jx h1 EX (A2D (b:=MN s k) h3 h4)];exact VG .nl
 try simp only[cn]at h2
 obtain rfl:k=s.size:=by omega
 apply AW.exit;apply BM;refine sQ fun N hN=>?_;simp-dsimp-implicitDefEqProofs(disch:=omega)only[go_sem];apply hN;apply AW.ret;simp-dsimp-implicitDefEqProofs(disch:=omega)only[go_sem];rw[kF h1 hd];exact VG (ZG (ZP _ _ _))
end Go.Proofs.YtghmeeifjeafmaaGreat
namespace Go.Proofs.YtghmeeifjeafmaaGreat
def ZQ(w:List Int):Nat→Nat→Int
  |0=>fun _=>0
  |k+1=>AX (ZQ w k) (w.getD k 0-1).toNat (ZQ w k (w.getD k 0-1).toNat+1)
def XB(n:Nat)(w:List Int):List Int:=vec n (ZQ w w.length)
theorem zN(w:List Int):∀k j,0≤ZQ w k j∧ZQ w k j≤k:=by
  intro k;induction k with
  |zero=>intro j;simp[ZQ]
  | succ k ih=>
    intro j;have h1:=ih j;have h2:=ih (w.getD k 0-1).toNat;simp only[ZQ,AX];split<;>omega
theorem VH(n:Nat)(w:List Int):(XB n w).length=n:=by simp[XB,vec]
set_option maxHeartbeats 2000000 in theorem RM (n:Nat) (w:List Int) (hn:n≤1000) (hw:w.length≤1048576) (hl:∀k,k<w.length→1≤w.getD k 0∧w.getD k 0≤n):∀nx,AC Tryz.prog 166 nx BN [.i .i64 n,ints w] (fun nx' H' r=>∃id,r= .t [.h id 0 n,.b true]∧(nx≤id∧id<nx')∧H' id=some ((XB n w).map (.i .i64))):=by
 intro nx
 refine AC.AM A9 Tryz.func166 rfl (by kernel_rfl) Tryz.ntmps166 Tryz.results166 (fun cX=>?_)
 refine sQ fun N hN=>?_;simp-dsimp-implicitDefEqProofs(disch:=omega)only[go_sem,ints,A6];apply hN;refine sQ fun N hN=>?_;simp-dsimp-implicitDefEqProofs(disch:=omega)only[go_sem,ints,A6];apply hN;refine AW.seq fun N1 BC=>?_;refine sQ fun N hN=>?_;simp-dsimp-implicitDefEqProofs(disch:=omega)only[go_sem,ints,A6];apply hN;apply AW.block;refine AW.AF (α:=Nat) (fun x=>sl 38 [(1,ints w),(6,.h (nx+3) 0 n),(7,.i .i64 x)]) (fun x=>AU BN (nx+3) (some (DM n (ZQ w x)))) (fun x m=>x≤w.length∧nx+4≤m) (fun x=>w.length-x) (0) ?_ ?_ (by intro d cs h;simp only[AU,CA,ZQ]at h ⊢;exact h) ?_
 ·exact⟨by omega,by first|omega|(dsimp only;omega)⟩
 ·simp(disch:=omega) [AO,AQ,sl,AJ,ints,rows,A4,ints,A6,AJ]<;>omega
 skip
 rintro k m ⟨hk,hm⟩
 simp-dsimp-implicitDefEqProofs(disch:=omega)only[go_sem];have eD:=hl k
 refine AW.seq fun N2 BM=>?_;refine sQ fun N hN=>?_;simp-dsimp-implicitDefEqProofs(disch:=omega)only[go_sem,ints,A6];apply hN;refine AW.cond rfl ?_ ?_<;>intro h1
 ·try simp only[cn]at h1
  have A3U:=eD (by omega);apply AW.skip;apply BM;refine AW.seq fun N3 BQ=>?_;apply AW.block;refine AW.seq fun N4 CG=>?_;refine sQ fun N hN=>?_;simp-dsimp-implicitDefEqProofs(disch:=omega)only[go_sem,ints,A6];apply hN;refine AW.cond rfl ?_ ?_<;>intro h2
  ·try simp only[cn]at h2
   omega
  try simp only[cn]at h2
  have hvb:=zN w k (w.getD k 0-1).toNat;apply AW.skip;apply CG;refine AW.BI A9 (by kernel_rfl) 16 (by kernel_rfl) ?_;simp-dsimp-implicitDefEqProofs(disch:=omega)only[B3,B4,BH,List.take_succ_cons,List.take_zero,List.drop_succ_cons,List.drop_zero,List.take_nil,List.drop_nil,go_sem,undef,ints,A6,AJ];apply BQ;apply rQ;simp-dsimp-implicitDefEqProofs(disch:=omega)only[go_sem,ints,A6];refine⟨k+1,?_,by intro d cs h;exact h,?_,?_⟩
  ·simp(disch:=omega) [AO,AQ,sl,AJ,ints,rows,A4,ints,A6,AJ]<;>omega
  ·exact⟨by first|omega|(dsimp only;omega),by first|omega|(dsimp only;omega)⟩
  first|omega|(simp only;omega)
 try simp only[cn]at h1
 have W8:k=w.length:=by omega
 apply AW.exit;apply BC;refine sQ fun N hN=>?_;simp-dsimp-implicitDefEqProofs(disch:=omega)only[go_sem,ints,A6];apply hN;apply AW.ret;simp-dsimp-implicitDefEqProofs(disch:=omega)only[go_sem];refine⟨_,rfl,⟨by omega,by omega⟩,?_⟩
 rw[W8,A1,XB,HT]
structure Vf(n:Nat)(os:List Int)(pw:List (List Int))(cj:List (List (List Int))):Prop where
  o:os.length=n
  p:pw.length=n
  c:cj.length=n
  r:∀i,i<n→(cj.getD i []).length=n-1-i
  pl:B6 pw
  cl:E9 cj
theorem sO(os:List Int)(pw:List (List Int))(cj:List (List (List Int))):NR (A8 os pw cj):=by
  unfold A8;exact .g _ fun k x hk=>by
    match k,hk with
    |0,hk=>cases hk;exact fM _
    |1,hk=>cases hk;exact TC _
    |2,hk=>cases hk;exact oT _
theorem Jy(x y:UInt8):(CP [32,x,94,y]).size=4:=rfl
theorem q_0(x y:UInt8):(CP [32,x,94,y]).data.getD 0 0=32:=rfl
theorem q_1(x y:UInt8):(CP [32,x,94,y]).data.getD 1 0=x:=rfl
theorem q_2(x y:UInt8):(CP [32,x,94,y]).data.getD 2 0=94:=rfl
theorem q_3(x y:UInt8):(CP [32,x,94,y]).data.getD 3 0=y:=rfl
theorem q_e(x y:UInt8):(CP [32,x,94,y]).extract 3 4=CP [y]:=rfl
theorem JV:Int.toNat 3=3:=rfl
theorem A2E:(((2:Nat):Int) !=2)=false:=rfl
theorem A2F:(((4:Nat):Int) !=4)=false:=rfl
theorem A2G:(((32:UInt8).toNat:Int) !=32)=false:=rfl
theorem A2H:(((94:UInt8).toNat:Int) !=94)=false:=rfl
theorem OZ.vwA{a m t k n id:Nat}{G H':HP}{r P B:AV}{os:List Int}{x:List Int}{rs cb':List AV}{X:List Int→List (List Int)}{Y:List Int→List (List (List Int))}
    {cpf:AV→List AV} (DT:∀(H':HP) (r1:AV) (x:List Int) (is:List Nat) (a' m':Nat),Ow H' r1 (ints x) is→is.Nodup→(∀i∈is,(i<a∨m≤i)∧a'≤i∧i<m')→H' t=some (B0 rs k [r1])→(∀i,a≤i→i<m→i≠t→H' i=G i)→m≤m'→a'≤a→OZ a' m' H' r P B os (X x) (Y x) (cpf r1) cb')
    (hv:H' id=some (x.map (.i .i64))) (hn:n=x.length) (DA:id<a∧id<m) (ht:H' t=some (B0 rs k [.h id 0 n])) (hk:∀i,a≤i→i<m→i≠t→H' i=G i):∃ids,Own id m H' (.g [r,P,B]) (Go.Proofs.YtghmeeifjeafmaaGreat.A8 os (X x) (Y x)) ids:=
  (DT H' _ x [id] id m (Ow.ints hv hn) (by simp) (fun i hi=>by rw[List.mem_singleton.1 hi];omega) ht hk (Nat.le_refl _) (by omega)).1.own
set_option maxHeartbeats 8000000 in
theorem IK(n:Nat)(os:List Int)(pw:List (List Int))(cj:List (List (List Int)))(hn:n≤6)(hs:Vf n os pw cj)(ho:∀i,i<n→0≤os.getD i 0∧os.getD i 0<10)(l r:List UInt8)(x y:UInt8)(hll:l.length≤2097152)(I3:r.length≤2097152)(Bj:QE 61 l=[[32,x,94,y],r])(w:List Int)(n5:w.length≤1048576)(hw:ZO n (CP r)= .t [ints w,.b true])(Vg:∀k,k<w.length→1≤w.getD k 0∧w.getD k 0≤n)
 (xi:Nat) (hx:(x.toNat:Int)=97+xi) (KA:xi<n) (LO:List Int) (pw2:List (List Int)) (cj2:List (List (List Int))) (PH:((CP [y]).toList=(dg (os.getD xi 0)).toList∧(LO,pw2,cj2)=(os,pw.set xi (XB n w),cj))∨(¬(CP [y]).toList=(dg (os.getD xi 0)).toList∧∃yi:Nat,(y.toNat:Int)=97+yi∧yi<xi∧(LO,pw2,cj2)=(os,pw,cj.set yi ((cj.getD yi []).set (xi-yi-1) (XB n w))))):
 BG Tryz.prog 162 [A8 os pw cj,.s (CP l)] (.t [A8 LO pw2 cj2,.b true]):=by
 have mE:BG Tryz.prog 160 [.s (CP l),.i .u8 61] (strs [CP [32,x,94,y],CP r]):=by
  have:=GI (CP l) 61 (by rw[BB];omega);rwa [kD,Bj]at this
 have hon:=hs.o
 subst hon
 have sP:BG Tryz.prog 165 [.i .i64 os.length,.s (CP r)] (.t [ints w,.b true]):=by
  have:=RL os.length (CP r) (by rw[BB];omega);rwa [hw]at this
 have A2I:(x.toNat:Int)-97=xi:=by omega
 have hyb:=y.toNat_lt
 have hxa:decide ((xi:Int)<0)=false:=decide_eq_false (by omega)
 have hxb:decide ((xi:Int)≥os.length)=false:=decide_eq_false (by omega)
 have hxc:decide ((os.length:Int)≤xi)=false:=decide_eq_false (by omega)
 refine BG.GD A9 Tryz.func162 rfl (by kernel_rfl) Tryz.ntmps162 Tryz.results162 ((sN (sO _ _ _) _)) (fun nx cX=>?_)
 refine sQ fun N hN=>?_;simp-dsimp-implicitDefEqProofs(disch:=omega)only[go_sem,A8,strs,JC,JU,JV];apply hN;refine AW.B5 2 nx [ints os,rows pw,A4 cj] rfl (by simp(disch:=omega)only[A0,A1]) ?_
 simp-dsimp-implicitDefEqProofs(disch:=omega)only[go_sem];refine sQ fun N hN=>?_;simp-dsimp-implicitDefEqProofs(disch:=omega)only[go_sem,A8,strs,JC,JU,JV];apply hN;refine sQ fun N hN=>?_;simp-dsimp-implicitDefEqProofs(disch:=omega)only[go_sem,A8,strs,JC,JU,JV];refine AC.pure (.of (mE)) ?_;try simp-dsimp-implicitDefEqProofs(disch:=omega)only[go_sem,A8,strs,JC,JU,JV]
 apply hN;refine AW.seq fun N1 BC=>?_;refine sQ fun N hN=>?_;simp-dsimp-implicitDefEqProofs(disch:=omega)only[go_sem,A8,strs,JC,JU,JV,A2E,A2F,A2G,A2H,Jy,q_0,q_2];apply hN;refine AW.C8 rfl ?_;apply AW.skip;apply BC;refine sQ fun N hN=>?_;simp-dsimp-implicitDefEqProofs(disch:=omega)only[go_sem,A8,strs,JC,JU,JV,JC];refine AC.pure (.of (sP)) ?_;try simp-dsimp-implicitDefEqProofs(disch:=omega)only[go_sem,A8,strs,JC,JU,JV]
 apply hN;refine AW.seq fun N2 BM=>?_;refine sQ fun N hN=>?_;simp-dsimp-implicitDefEqProofs(disch:=omega)only[go_sem,A8,strs,JC,JU,JV];apply hN;refine AW.C8 rfl ?_;apply AW.skip;apply BM;refine sQ fun N hN=>?_;simp-dsimp-implicitDefEqProofs(disch:=omega)only[go_sem,A8,strs,JC,JU,JV];refine(AC.frame (RM os.length w (by omega) n5 Vg _)).AG ?_
 rintro m0 H0 rv U2 ⟨G9,⟨Nj,rfl,⟨hv1,hv2⟩,hv9⟩,Vh,Jz⟩
 have hv3:=(Jz Nj hv1).trans hv9
 have A2J:H0 (nx+1)=some [.nl,.nl,.nl]:=by rw[Vh _ (by omega)];simp(disch:=omega)only[A0,A1]
 try simp-dsimp-implicitDefEqProofs(disch:=omega)only[go_sem,A8,strs]
 apply hN;refine AW.seq fun N hN=>?_;refine AW.BI A9 (by kernel_rfl) 14 (by kernel_rfl) ?_
 simp-dsimp-implicitDefEqProofs(disch:=omega)only[B3,B4,BH,List.take_succ_cons,List.take_zero,List.drop_succ_cons,List.drop_zero,List.take_nil,List.drop_nil,go_sem,undef,A8,strs,AJ,JC,JU,JV,Jy,q_1,q_3,A2I];apply hN;refine AW.seq fun N3 BQ=>?_;refine sQ fun N hN=>?_;simp-dsimp-implicitDefEqProofs(disch:=omega)only[go_sem,A8,strs,JC,JU,JV,hxa,hxb,hxc];apply hN;refine AW.C8 rfl ?_;apply AW.skip;apply BQ;refine sQ fun N hN=>?_;simp-dsimp-implicitDefEqProofs(disch:=omega)only[go_sem,A8,strs,JC,JU,JV];refine(AC.frame (X5 os pw cj (by omega) hs.pl hs.cl _)).AG ?_
 rintro m1 H1 rr MW ⟨G0,⟨r0,P,B,cp,cb,rfl,hW⟩,CK,F4⟩
 have Zm:=hW.AD (H':=H1) (fun i i1 i2=>F4 i i1) (Nat.le_refl _)
 have Cc:=Zm.2.1.one
 have mA:=Zm.2.2.1.one
 have T6:=Zm.r0
 try simp-dsimp-implicitDefEqProofs(disch:=omega)only[go_sem,Cc,mA,T6]
 apply hN;refine AW.seq fun N4 CG=>?_;refine AW.BD (fun G1 F0=>?_);dsimp only at F0
 have hq:G1 (m0+14+11+2)=some [r0,P,B]:=by rw[←F0];simp(disch:=omega)only[A1]
 have JA:G1 (nx+1)=some [.nl,.nl,.nl]:=by rw[←F0,A0 _ _ (by omega),CK _ (by omega)];exact A2J
 have hv4:G1 Nj=some ((XB os.length w).map (.i .i64)):=by rw[←F0,A0 _ _ (by omega),CK _ (by omega)];exact hv3
 have Nh:=Zm.AD (H':=G1) (fun i i1 i2=>by rw[←F0];simp(disch:=omega)only[A0]) (Nat.le_refl _)
 have z6:=A6 (xs:=os) (k:=xi) KA
 refine AW.seq fun N hN=>?_;refine AW.BI A9 (by kernel_rfl) 11 (by kernel_rfl) ?_
 simp-dsimp-implicitDefEqProofs(disch:=omega)only[B3,B4,BH,List.take_succ_cons,List.take_zero,List.drop_succ_cons,List.drop_zero,List.take_nil,List.drop_nil,go_sem,undef,A8,strs,AJ,JC,JU,JV,Jy,q_e,ints,z6,Int.toNat_natCast];refine⟨_,.of (FR (os.getD xi 0) (ho xi KA).1 (ho xi KA).2),?_⟩
 try simp-dsimp-implicitDefEqProofs(disch:=omega)only[go_sem,A8,strs,JC,JU,JV]
 apply hN;refine AW.cond rfl ?_ ?_<;>intro h1
 ·try simp only[cn]at h1
  have Nk:(CP [y]).toList=(dg (os.getD xi 0)).toList:=by simpa using h1
  obtain⟨_,e⟩:=PH.resolve_right (fun h=>h.1 Nk);simp only[Prod.mk.injEq]at e;obtain⟨rfl,rfl,rfl⟩:=e;have hxp:xi<pw.length:=by rw[hs.p];exact KA
  obtain⟨p,rfl,hp,XI,mX,DT⟩:=Nh.MK (k:=xi) hxp;refine sQ fun N hN=>?_;simp-dsimp-implicitDefEqProofs(disch:=omega)only[go_sem,A8,strs,JC,JU,JV,hq,hp,XI,Int.toNat_natCast];apply hN;refine sQ fun N hN=>?_;simp-dsimp-implicitDefEqProofs(disch:=omega)only[go_sem,A8,strs,JC,JU,JV,JA,hq,Cc,mA,T6];apply hN;apply AW.ret;simp-dsimp-implicitDefEqProofs(disch:=omega)only[go_sem];refine VG ?_
  obtain⟨ids,ho⟩:=OZ.vwA DT (H':=AU (AU G1 p (some (B0 cp xi [.h Nj 0 LO.length]))) (nx+1) (some [r0,.h p 0 pw.length,B])) (id:=Nj) (n:=LO.length) (by simp(disch:=omega)only[A0];exact hv4) (VH _ _).symm (by omega) (by simp(disch:=omega)only[A0,A1]) (fun i i1 i2 i3=>by simp(disch:=omega)only[A0]);exact ho.1.vw
 try simp only[cn]at h1
 have Nk:¬(CP [y]).toList=(dg (os.getD xi 0)).toList:=by simpa using h1
 obtain⟨_,yi,hy,hyx,e⟩:=PH.resolve_left (fun h=>Nk h.1)
 simp only[Prod.mk.injEq]at e
 obtain⟨rfl,rfl,rfl⟩:=e
 apply AW.skip;apply CG;refine AW.seq fun N5 DW=>?_;refine sQ fun N hN=>?_;simp-dsimp-implicitDefEqProofs(disch:=omega)only[go_sem,A8,strs,JC,JU,JV];refine C9.mk' (fun h2=>?_) (fun h2=>?_)
 ·try simp only[cn]at h2
  try simp-dsimp-implicitDefEqProofs(disch:=omega)only[go_sem,A8,strs,JC,JU,JV]
  apply hN;refine AW.cond rfl ?_ ?_<;>intro h3
  ·try simp only[cn]at h3
   omega
  try simp only[cn]at h3
  have Oh:yi<cj.length:=by rw[hs.c];omega
  have tZ:xi-yi-1<(cj.getD yi []).length:=by rw[hs.r yi (by omega)];omega
  obtain⟨b,q,ds,rfl,hb,E6,Zl,zO,hd,By,q12,Cd,DT⟩:=Nh.Q9 Oh tZ;have ey:(y.toNat:Int)-97=yi:=by omega
  have exy:((xi:Int)-yi-1).toNat=xi-yi-1:=by omega
  apply AW.skip;apply DW;refine sQ fun N hN=>?_;simp-dsimp-implicitDefEqProofs(disch:=omega)only[go_sem,A8,strs,JC,JU,JV,hq,hb,E6,zO,hd,By,ey,exy,Int.toNat_natCast];apply hN;refine sQ fun N hN=>?_;simp-dsimp-implicitDefEqProofs(disch:=omega)only[go_sem,A8,strs,JC,JU,JV,JA,hq,Cc,mA,T6];apply hN;apply AW.ret;simp-dsimp-implicitDefEqProofs(disch:=omega)only[go_sem];refine VG ?_
  obtain⟨ids,ho⟩:=OZ.vwA DT (H':=AU (AU G1 q (some (B0 ds (xi-yi-1) [.h Nj 0 LO.length]))) (nx+1) (some [r0,P,.h b 0 cj.length])) (id:=Nj) (n:=LO.length) (by simp(disch:=omega)only[A0];exact hv4) (VH _ _).symm (by omega) (by simp(disch:=omega)only[A0,A1]) (fun i i1 i2 i3=>by simp(disch:=omega)only[A0]);exact ho.1.vw
 try simp only[cn]at h2
 omega
end Go.Proofs.YtghmeeifjeafmaaGreat
