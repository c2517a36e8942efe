import Derived.Ground.SlsfProg
import Derived.Shelf.SlSortCmp.Whole1
import Derived.Test.YtgknbnkmilddhaaGreatProg
import Derived.Test.YtgknbnkmilddhaaGreatZ19
import Derived.Test.YtgknbnkmilddhaaGreatZ20
import Derived.Test.YtgknbnkmilddhaaGreatZ22
set_option linter.unusedVariables false
set_option linter.unusedSimpArgs false

namespace Go.Proofs
open Go.Shelf
def Tryz.XG:Go.Shelf.Ren:=⟨fun|6=>79|15=>153|14=>152|28=>207|29=>208|20=>199|21=>200|22=>201|23=>202|24=>203|25=>204|26=>205|27=>206|46=>252|47=>253|48=>254|49=>255|50=>256|57=>269|n=>n,fun|22=>26|24=>25|25=>128|3=>3|39=>130|0=>0|53=>219|55=>116|4=>4|46=>212|45=>211|50=>216|5=>5|9=>9|66=>249|70=>253|76=>266|77=>267|n=>n,fun|n=>n⟩
theorem Tryz.l6:Go.Proofs.SlLaysF.n6 Tryz.prog Tryz.XG:={
  mixed:=by kernel_rfl
  f6:=⟨Tryz.f79.name,by decide,Tryz.func79.trans (congrArg some (by kernel_rfl))⟩
  f14:=⟨Tryz.f152.name,by decide,Tryz.func152.trans (congrArg some (by kernel_rfl))⟩
  f15:=Tryz.func153.trans (congrArg some (by kernel_rfl))
  f20:=⟨Tryz.f199.name,by decide,Tryz.func199.trans (congrArg some (by kernel_rfl))⟩
  f21:=⟨Tryz.f200.name,by decide,Tryz.func200.trans (congrArg some (by kernel_rfl))⟩
  f22:=⟨Tryz.f201.name,by decide,Tryz.func201.trans (congrArg some (by kernel_rfl))⟩
  f23:=⟨Tryz.f202.name,by decide,Tryz.func202.trans (congrArg some (by kernel_rfl))⟩
  f24:=⟨Tryz.f203.name,by decide,Tryz.func203.trans (congrArg some (by kernel_rfl))⟩
  f25:=⟨Tryz.f204.name,by decide,Tryz.func204.trans (congrArg some (by kernel_rfl))⟩
  f26:=⟨Tryz.f205.name,by decide,Tryz.func205.trans (congrArg some (by kernel_rfl))⟩
  f27:=⟨Tryz.f206.name,by decide,Tryz.func206.trans (congrArg some (by kernel_rfl))⟩
  f28:=Tryz.func207.trans (congrArg some (by kernel_rfl))
  f29:=Tryz.func208.trans (congrArg some (by kernel_rfl))
  f46:=⟨Tryz.f252.name,by decide,Tryz.func252.trans (congrArg some (by kernel_rfl))⟩
  f47:=Tryz.func253.trans (congrArg some (by kernel_rfl))
  f48:=Tryz.func254.trans (congrArg some (by kernel_rfl))
  f49:=⟨Tryz.f255.name,by decide,Tryz.func255.trans (congrArg some (by kernel_rfl))⟩
  f50:=⟨Tryz.f256.name,by decide,Tryz.func256.trans (congrArg some (by kernel_rfl))⟩
  f57:=⟨Tryz.f269.name,by decide,Tryz.func269.trans (congrArg some (by kernel_rfl))⟩
  t0:=Tryz.underlying0
  a0:=Tryz.isAgg0
  z0:=Tryz.sizeOf0
  v0:=Tryz.zeroValue0
  t3:=Tryz.underlying3
  a3:=Tryz.isAgg3
  z3:=Tryz.sizeOf3
  v3:=Tryz.zeroValue3
  t4:=Tryz.underlying4
  a4:=Tryz.isAgg4
  z4:=Tryz.sizeOf4
  v4:=Tryz.zeroValue4
  t5:=Tryz.underlying5
  a5:=Tryz.isAgg5
  z5:=Tryz.sizeOf5
  v5:=Tryz.zeroValue5
  t9:=Tryz.underlying9
  a9:=Tryz.isAgg9
  z9:=Tryz.sizeOf9
  v9:=Tryz.zeroValue9
  t22:=Tryz.underlying26
  a22:=Tryz.isAgg26
  z22:=Tryz.sizeOf26
  v22:=Tryz.zeroValue26
  a24:=Tryz.isAgg25
  z24:=Tryz.sizeOf25
  t25:=Tryz.underlying128
  a25:=Tryz.isAgg128
  z25:=Tryz.sizeOf128
  v25:=Tryz.zeroValue128
  t39:=Tryz.underlying130
  a39:=Tryz.isAgg130
  z39:=Tryz.sizeOf130
  v39:=Tryz.zeroValue130
  t45:=Tryz.underlying211
  a45:=Tryz.isAgg211
  z45:=Tryz.sizeOf211
  v45:=Tryz.zeroValue211
  t46:=Tryz.underlying212
  a46:=Tryz.isAgg212
  z46:=Tryz.sizeOf212
  v46:=Tryz.zeroValue212
  t50:=Tryz.underlying216
  a50:=Tryz.isAgg216
  z50:=Tryz.sizeOf216
  v50:=Tryz.zeroValue216
  t53:=Tryz.underlying219
  a53:=Tryz.isAgg219
  z53:=Tryz.sizeOf219
  v53:=Tryz.zeroValue219
  t55:=Tryz.underlying116
  a55:=Tryz.isAgg116
  z55:=Tryz.sizeOf116
  v55:=Tryz.zeroValue116
  t66:=Tryz.underlying249
  a66:=Tryz.isAgg249
  z66:=Tryz.sizeOf249
  v66:=Tryz.zeroValue249
  t70:=Tryz.underlying253
  a70:=Tryz.isAgg253
  z70:=Tryz.sizeOf253
  v70:=Tryz.zeroValue253
  t76:=Tryz.underlying266
  a76:=Tryz.isAgg266
  z76:=Tryz.sizeOf266
  v76:=Tryz.zeroValue266
  t77:=Tryz.underlying267
  a77:=Tryz.isAgg267
  z77:=Tryz.sizeOf267
  v77:=Tryz.zeroValue267}
open Go.RowKit Go.Lib Go.Sort in

theorem Tryz.RT{α:Type}[Inhabited α](enc:α->Value)(h1:OneCell enc)(cf:α->α->Int)(hO:SWO (ltOf cf))(g:Nat)(cb:Array Value)(CP off cap:Nat)(d:Array α)(w:World)(eg:∀args w,(callFunc g args).run Tryz.prog w= .ok (.enter g args) w)(A22:CmpLays1 Tryz.prog g cb enc cf CP off d.size w)(hH:Holds enc w CP off d)(hblk:CP<w.heap.size)(FV:d.size<4611686018427387904):
    Calls Tryz.prog 79 #[.slice (some ⟨CP,off,none⟩) d.size cap,.func (.func g) #[] cb] w λe w'=>
      e= .returned (.tuple #[])/\∃d' n os,PermIn 0 d.size d d'/\SortedIn (ltOf cf) 0 d.size d'/\w'=sortWorld enc w CP off n d' os:=Any.slices_SortFunc Tryz.l6 enc h1 cf hO g cb CP off cap d w eg A22 hH hblk FV
end Go.Proofs

namespace Go.Proofs.YtgknbnkmilddhaaGreat
theorem zR{L:LM}{W W':World}(st:Step L BM W L BM W'):∃q os,W'=Sort.grow (W.drewN q) os:=by
  refine⟨W'.drawn-W.drawn,W'.heap.extract W.heap.size W'.heap.size,?_⟩;have hh:W'.heap=W.heap++W'.heap.extract W.heap.size W'.heap.size:=by
    apply Array.ext_getElem?;intro b;rw[Array.getElem?_append];split
    · exact st.AJ b (by assumption) JK
    rename_i hb;have:=st.size;rw[Array.getElem?_extract];split
    · congr 1;omega
    rw[Array.getElem?_eq_none A0]
  have hd:=st.output.2;have ho:=st.output.1;have h1:=st.os;have h2:=st.tape;obtain⟨wh,wt,wd,wo,wp⟩:=W';simp only at hh hd ho h1 h2
  unfold Sort.grow World.drewN;simp only
  rw[<-hh];subst ho h1 h2;congr 1
  omega
theorem grow_step{L:LM}(W:World)(q:Nat)(os:Array Obj):Step L BM W L BM (Sort.grow (W.drewN q) os):=by
  refine⟨λ_ _ h=>h,rfl,rfl,⟨rfl,Nat.le_add_right _ _⟩,?_,λb hb _=>?_,λ_ _ h=>h⟩
  · show W.heap.size<=(W.heap++os).size
    rw[Array.size_append];omega
  show(W.heap++os)[b]? =_
  rw[Array.getElem?_append,if_pos hb]
theorem putRow_set{α:Type}[Inhabited α]{enc:α->Value}{w:World}{CP off:Nat}{d:Array α}{arr:Array Value}{e:TypeId}{m:Nat}(h:w.heap[CP]? =some (.cells arr e (0,0))):
    Sort.putRow enc (Sort.ahead w m) CP off d=(CM w CP (.cells (Sort.putCells enc off d arr) e (0,0))).drewN m:=by
  unfold Sort.putRow Sort.mapBlock Sort.ahead CM World.drewN;simp only
  congr 1
  apply Array.ext_getElem?;intro b;rw[Array.getElem?_modify];have C4:=HD h;by_cases hb:CP=b
  · subst hb;rw[if_pos rfl,h,Array.getElem?_setIfInBounds_self_of_lt C4];rfl
  rw[if_neg hb,Array.getElem?_setIfInBounds_ne hb]
theorem l7{α:Type}[Inhabited α]{enc:α->Value}{off:Nat}{d:Array α}{c:Array Value}{k:Nat}(hk:k<d.size)(hc:off+d.size<=c.size):(Sort.putCells enc off d c)[off+k]? =some (enc d[k]!):=by
  unfold Sort.putCells;rw[Array.getElem?_mapIdx,Array.getElem?_eq_getElem (show off+k<c.size by omega),Option.map_some,if_pos A0,Nat.add_sub_cancel_left]
theorem A23{L:LM}{w:World}{M:Nat->Prop}{x y:AV}{us:Array Value}(h:ID L w M [x,y] us):∃u v,us=#[u,v]/\R L w M x u/\R L w M y v:=by
  obtain⟨h1,h2⟩:=h;obtain⟨l⟩:=us;match l,h1 with
  |[u,v],_=>exact⟨u,v,rfl,h2 0 x rfl,h2 1 y rfl⟩
theorem TS{β:Type}[Inhabited β](ea:β->AV)(c:β->β->Int)(X:List β)(g:Nat)(A74:List AV)(h0:0<X.length)(hn:X.length<4611686018427387904)(h1:∀x∈X,one (ea x)=true)
    (Cj:∀x y,c y x= -c x y) (zI:∀x y z,c x y<=0->c y z<=0->c x z<=0/\(c x y<0\/c y z<0->c x z<0)) (heg:Enters Tryz.prog g) (hc:∀x∈X,∀y∈X,BI Tryz.prog g ([ea x,ea y]++A74) (.i .i64 (c x y)))
    (id nx:Nat) (H:HP) (hH:H id=some (X.map ea)):
    AC Tryz.prog 79 nx H [.h id 0 X.length,.f g A74] (λBB H' r=>BB=nx/\∃Y:List β,Y.Perm X/\Y.Pairwise (λx y=>¬c y x<0)/\H'=AT H id (some (Y.map ea))):=by
  refine⟨⟨_,Tryz.func79,A7,A7⟩,λL Av w us hs hL ha=>?_⟩;obtain⟨u,v,rfl,hu,hv⟩:=A23 ha;obtain⟨cb,rfl,kF⟩:=hv.mY;cases hu with
  | h _ _ _ l a cp hl ADY A3S A75 hkd=>
    obtain⟨l',I9,D0⟩:=hs.node id _ hH;rw[hl]at I9;cases I9;obtain⟨arr,e,e1,e2,e3,e4⟩:=D0.ex hkd;rw[List.length_map]at e3;have YL:cp≠0:=A0;obtain rfl:=A75.resolve_left YL;rw[Nat.add_zero];have KG:∀k,k<X.length->∃u,arr[l.off+k]? =some u/\R L w (MM L H Av) (ea (X.getD k default)) u:=λk hk=>by
      obtain⟨u,q1,q2⟩:=e4 k (ea (X.getD k default)) (by simp[hk]);exact⟨u,q1,q2⟩
    obtain⟨val,MZ⟩:∃val:Nat->Value,∀k,k<X.length->arr[l.off+k]? =some (val k)/\R L w (MM L H Av) (ea (X.getD k default)) (val k):=
      ⟨λk=>(arr[l.off+k]?).getD undef,λk hk=>by
        obtain⟨u,q1,q2⟩:=KG k hk;show arr[l.off+k]? =some ((arr[l.off+k]?).getD undef)/\R L w (MM L H Av) _ ((arr[l.off+k]?).getD undef)
        rw[q1];exact⟨rfl,q2⟩⟩
    have z8:∀k,k%X.length<X.length:=λk=>Nat.mod_lt _ h0
    have T8:∀k,X.getD (k%X.length) default∈X:=λk=>by
      have:=z8 k;simp[this]
    obtain⟨enc,Hp⟩:∃enc:Nat->Value,enc=λk=>val (k%X.length):=⟨_,rfl⟩
    obtain⟨cf,hcf⟩:∃cf:Nat->Nat->Int,cf=λi j=>c (X.getD (i%X.length) default) (X.getD (j%X.length) default):=⟨_,rfl⟩
    have A24:∀k,k<X.length->(Array.range X.length)[k]! =k:=λk hk=>by rw[getElem!_pos _ k (by simpa using hk)];simp
    have hblk:=D0.lt;have hb:¬MM L H Av l.CP->False:=λq=>q (.inr ⟨id,_,l,hH,hl,rfl⟩)
    have A76:OneCell enc:=λk=>by rw[Hp];exact(IK (MZ _ (z8 k)).2 (h1 _ (T8 k))).2
    have hO:Sort.SWO (ltOf cf):=by
      rw[hcf];refine⟨λx=>?_,λx y z q1 q2=>?_,λx y z q1 q2=>?_⟩
      · have:=Cj (X.getD (x%X.length) default) (X.getD (x%X.length) default);simp only[ltOf,decide_eq_false_iff_not];omega
      · simp only[ltOf,decide_eq_true_eq]at q1 q2 ⊢;exact(zI _ _ _ A0 A0).2 (.inl q1)
      simp only[ltOf,decide_eq_false_iff_not]at q1 q2 ⊢;have a1:=Cj (X.getD (x%X.length) default) (X.getD (y%X.length) default);have a2:=Cj (X.getD (y%X.length) default) (X.getD (z%X.length) default);have a3:=Cj (X.getD (x%X.length) default) (X.getD (z%X.length) default);have:=(zI (X.getD (z%X.length) default) (X.getD (y%X.length) default) (X.getD (x%X.length) default) A0 A0).1;omega
    have A22:CmpLays1 Tryz.prog g cb enc cf l.CP l.off (Array.range X.length).size w:=by
      intro m os dk uR x y;obtain⟨W,hW⟩:∃W,sortWorld enc w l.CP l.off m dk os=W:=⟨_,rfl⟩;have hWk:∀b,b<w.heap.size->¬MM L H Av b->W.heap[b]? =w.heap[b]? :=λb LZ PJ=>by
        rw[<-hW,sortWorld,putRow_set e1];show((CM w l.CP _).heap++os)[b]? =_
        rw[Array.getElem?_append,if_pos (by rw[HE];exact LZ)];exact W8 _ _ λq=>PJ (q▸ .inr ⟨id,_,l,hH,hl,rfl⟩)
      have hWs:w.heap.size<=W.heap.size:=by
        rw[<-hW,sortWorld,putRow_set e1];show _<=((CM w l.CP _).heap++os).size
        rw[Array.size_append,HE];omega
      rw[hW];have hRm:∀{x:AV} {u:Value},R L w (MM L H Av) x u->R L W (MM L H Av) x u:=λh=>h.mono (λ_ _ q=>q) hWk λ_ _ q=>q
      have A77:=(hc _ (T8 x) _ (T8 y)).2 L (MM L H Av) W (#[enc x,enc y]++cb) (λb q=>Nat.lt_of_lt_of_le (uE hs b q) hWs) ⟨nx,hL⟩ (by
        refine⟨by rw[Array.size_append,kF.1];simp;omega,λk z hk=>?_⟩;rw[Array.getD_eq_getD_getElem?,Array.getElem?_append];match k,hk with
        |0,hk=>cases hk;rw[Hp];exact hRm (MZ _ (z8 x)).2
        |1,hk=>cases hk;rw[Hp];exact hRm (MZ _ (z8 y)).2
        | k+2,hk=>
          have:=kF.2 k z (by simpa using hk);rw[if_neg AB,show k+2-(#[enc x,enc y]:Array Value).size=k from rfl,<-Array.getD_eq_getD_getElem?];exact hRm this)
      refine A77.mono ?_;rintro e' w' ⟨z,rfl,st,hz⟩;obtain⟨q,os',rfl⟩:=zR st;rw[hz.DV];exact⟨by rw[hcf],q,os',rfl⟩
    have A78:Sort.Holds enc w l.CP l.off (Array.range X.length):=by
      intro j hj;have fM:j<X.length:=by simpa using hj
      rw[A24 j fM];constructor
      · unfold World.cell?;simp only[e1];rw[(MZ j fM).1,Hp];simp[Nat.mod_eq_of_lt fM]
      unfold World.frozen?;simp only[e1];simp
    have key:=Tryz.RT enc A76 cf hO g cb l.CP l.off cp (Array.range X.length) w heg A22 A78 hblk (by simpa using hn);rw[Array.size_range]at key;refine key.mono ?_;rintro e' w' ⟨rfl,d',n0,os,⟨p1,p2,p3⟩,A79,rfl⟩;have FV:d'.size=X.length:=by rw[p1,Array.size_range]
    have p4:d'.toList.Perm (List.range X.length):=by
      have q1:d'.extract 0 X.length=d':=by rw[<-FV];simp
      have q2:(Array.range X.length).extract 0 X.length=Array.range X.length:=AB;rw[q1,q2]at p3;simpa using p3
    have hdb:∀k,k<X.length->d'[k]! <X.length:=λk hk=>by
      rw[getElem!_pos d' k A0];exact List.mem_range.1 (p4.mem_iff.1 AB)
    obtain⟨Y,hY⟩:∃Y:List β,Y=d'.toList.map λk=>X.getD k default:=⟨_,rfl⟩
    have aN:Y.length=X.length:=by rw[hY,List.length_map,Array.length_toList,FV]
    have hYg:∀k,k<X.length->Y[k]? =some (X.getD d'[k]! default):=λk hk=>by
      rw[hY,List.getElem?_map,Array.getElem?_toList,Array.getElem?_eq_getElem A0,getElem!_pos d' k A0];rfl
    have A25:∀(k:Nat) (x:AV),(Y.map ea)[k]? =some x->∃u,(Sort.putCells enc l.off d' arr)[l.off+k]? =some u/\R L w (MM L H Av) x u:=by
      intro k x hk;have MU:k<X.length:=by
        have:=(List.getElem?_eq_some_iff.1 hk).1;rw[List.length_map,aN]at this;exact this
      rw[List.getElem?_map,hYg k MU]at hk;cases hk;refine⟨_,l7 A0 A0,?_⟩;rw[Hp];simp only
      rw[Nat.mod_eq_of_lt (hdb k MU)];exact(MZ _ (hdb k MU)).2
    have ER:=MX (l':=l) (id':=id) hs hH hl (.inl ⟨rfl,rfl⟩) rfl hkd (Sort.putCells enc l.off d' arr) e (Y.map ea) (by unfold Sort.putCells;rw[Array.size_mapIdx];exact e2) (by rw[List.length_map,aN];exact e3) A25;rw[U5 L hl,LY]at ER;obtain⟨s1,st1⟩:=ER;have hg:=grow_step (L:=L) (CM w l.CP (.cells (Sort.putCells enc l.off d' arr) e (0,0))) n0 os;obtain⟨s2,st2⟩:=s1.kept hg;rw[sortWorld,putRow_set e1];refine⟨_,.t [],L,nx,_,rfl,⟨rfl,Y,?_,?_,rfl⟩,Nat.le_refl _,hL,λ_ _=>rfl,s2,st1.trans st2,.t _ _ rfl λk x hk=>by simp at hk⟩
    · rw[hY];have:=p4.map λk=>X.getD k default
      refine this.trans ?_;have e6:(List.range X.length).map (λk=>X.getD k default)=X:=by
        apply List.ext_getElem?;intro k;rw[List.getElem?_map];by_cases hk:k<X.length
        · simp[hk]
        rw[List.getElem?_eq_none (by simp;omega),List.getElem?_eq_none A0];rfl
      rw[e6]
    rw[List.pairwise_iff_getElem];intro i j hi hj NZ;rw[aN]at hi hj;have q1:=A79 i j (Nat.zero_le _) NZ hj;have g1:Y[i]=X.getD d'[i]! default:=by have:=hYg i hi;rw[List.getElem?_eq_getElem A0]at this;exact Option.some.inj this
    have g2:Y[j]=X.getD d'[j]! default:=by have:=hYg j hj;rw[List.getElem?_eq_getElem A0]at this;exact Option.some.inj this
    rw[hcf]at q1;simp only[ltOf,decide_eq_false_iff_not,Nat.mod_eq_of_lt (hdb i hi),Nat.mod_eq_of_lt (hdb j hj)]at q1;rw[g1,g2];exact q1
end Go.Proofs.YtgknbnkmilddhaaGreat

namespace Go.Proofs.YtgknbnkmilddhaaGreat
def Hq(P:Pc)(t:Nat->Option V):V->Prop:=Sg (T P 0) (M P 0) t P.n P.n
theorem Rn{t t':Nat->Option V}(h:∀d y,t d=some y->t' d=some y):∀k,OG t' k<=OG t k/\∀d,d<k->t d=none->t' d≠none->OG t' k<OG t k:=by
  intro k;induction k with
  |zero=>exact⟨Nat.le_refl _,λd hd=>A0⟩
  | succ k ih=>
    obtain⟨i1,i2⟩:=ih;cases hk:t k with
    | none=>
      by_cases DN:t' k=none
      · have e1:OG t (k+1)=OG t k+1:=by rw[OG,hk]
        have e2:OG t' (k+1)=OG t' k+1:=by rw[OG,DN]
        rw[e1,e2];refine⟨A0,λd hd h1 h2=>?_⟩;rcases Nat.lt_or_ge d k with q|q
        · have:=i2 d q h1 h2;omega
        obtain rfl:d=k:=A0;exact absurd DN h2
      obtain⟨y,hy⟩:∃y,t' k=some y:=by
        cases hq:t' k with
        |none=>exact absurd hq DN
        |some y=>exact⟨y,rfl⟩
      have e1:OG t (k+1)=OG t k+1:=by rw[OG,hk]
      have e2:OG t' (k+1)=OG t' k:=by rw[OG,hy]
      rw[e1,e2];exact⟨A0,λd hd h1 h2=>A0⟩
    | some y=>
      have hy:=h k y hk;have e1:OG t (k+1)=OG t k:=by rw[OG,hk]
      have e2:OG t' (k+1)=OG t' k:=by rw[OG,hy]
      rw[e1,e2];refine⟨i1,λd hd h1 h2=>?_⟩;rcases Nat.lt_or_ge d k with q|q
      · exact i2 d q h1 h2
      obtain rfl:d=k:=A0;rw[hk]at h1;cases h1
section
variable{P:Pc}(hv:GX P)(hc:CG P 0)(hp:∀d,d<P.n->JG (P.o d))
include hv hc
theorem wQ{t:Nat->Option V}(c:W2 P.n P.o (T P) (M P 0) t){x:V}(hx:Hq P t x):(JA (W3 P) t P.n P.n x).1=P.n:=by
  have l:=lvl hv hc;have rk:∀d y x,d<P.n->t d=some y->T P d x->Sm (T P 0) (M P 0) y x (W3 P d y x)/\T P (d+1) (W3 P d y x):=λd y x h1 h2 h3=>QA hv hc d y x h1 (c.tb d y h2).2.1 (c.tb d y h2).2.2 h3
  have hS:=c.sub l (Nat.le_refl _);have Qb:T P (P.n-P.n) x:=by rw[Nat.sub_self];exact hS.n hx
  rcases dA (rd:=W3 P) (t:=t) P.n (Nat.le_refl _) x with h|⟨h1,h2,h3,h4⟩
  · exact h
  have hm:∀d y,t d=some y->Hq P t y:=λd y hy=>by
    have:=c.down l (Nat.zero_le d) (Nat.le_of_lt (c.tb d y hy).1) (c.mem l hy);rwa [Nat.sub_zero]at this
  have hg:=(kQ l rk hS hm P.n (Nat.le_refl _) x Qb).1 hx;have hN:=kP l rk P.n (Nat.le_refl _) x Qb;exact absurd h3 ((c.depth l h2).2 ⟨_,hg,hN,h4⟩)
theorem Ro{t:Nat->Option V}(c:W2 P.n P.o (T P) (M P 0) t){d:Nat}{y:V}(hy:t d=some y):Hq P t y:=by
  have l:=lvl hv hc;have:=c.down l (Nat.zero_le d) (Nat.le_of_lt (c.tb d y hy).1) (c.mem l hy);rwa [Nat.sub_zero]at this
theorem wR{t:Nat->Option V}(c:W2 P.n P.o (T P) (M P 0) t):E5 (T P 0) (M P 0) (Hq P t):=c.sub (lvl hv hc) (Nat.le_refl _)
theorem zS{t:Nat->Option V}(c:W2 P.n P.o (T P) (M P 0) t){us:List V}(hu:∀x∈us,T P 0 x):
    Inv P.n P.o (T P) (M P 0) (W3 P) (λv=>Hq P t v\/v∈us) t (λv=>v∈us):=by
  have l:=lvl hv hc;have hS:=wR hv hc c;have dn:∀{d x},d<P.n->Sg (T P 0) (M P 0) t P.n (P.n-(d+1)) x->Hq P t x:=λ{d x} hd hx=>by
    have:=c.down l (Nat.zero_le (d+1)) A0 hx;rwa [Nat.sub_zero]at this
  refine⟨c.tb,hu,λd e y z h1 h2 h3=>?_,λd y h=>?_,λd y h A hA q=>q y (.inl (Ro hv hc c h)),λv h A hA q=>q v (.inr h),λu h=>?_⟩
  · obtain⟨w,w1,w2⟩:=c.cm d e y z h1 h2 h3;have:=dn (c.tb d y h1).1 w1;exact⟨w,hS.n this,.inl w2,.inl (wQ hv hc c this)⟩
  · exact .inl (wQ hv hc c (dn (c.tb d y h).1 (c.pw d y h)))
  rcases h with h|h
  · exact λA hA q=>Sg.least (l.g 0) hA (λd y hy=>q y (.inr ⟨d,hy⟩)) P.n u h
  exact λA hA q=>q u (.inl h)
include hp
theorem Rp:∀(f:Nat) (t:Nat->Option V) (w:List V),OW P t->(∀x∈w,T P 0 x)->∀d y,t d=some y->zD P f t w d=some y:=by
  intro f;induction f with
  |zero=>intro t w _ _ d y h;exact h
  | succ f ih=>
    intro t w hG hw d y hy;rw[zD];split
    · exact hy
    rename_i AQ;cases w with
    |nil=>exact absurd rfl AQ
    | cons x q=>
      have hx:=hw x List.mem_cons_self;obtain⟨g1,g2⟩:=vX hv hc hp hG (λz hz=>hw z (List.mem_cons_of_mem _ hz)) hx;refine ih _ _ g1 g2 d y ?_;show(kS P t q (RN P t x)).1 d=some y
      obtain⟨s1,s2,s3⟩:=XA hv hc hG hx;unfold kS;split
      · exact hy
      rename_i hs;show oset t (RN P t x).1 _ d=some y
      unfold oset;split
      · rename_i e;have:=(s3 A0).1;rw[<-e,hy]at this;cases this
      exact hy
theorem A26{t:Nat->Option V}(hG:OW P t)(c:W2 P.n P.o (T P) (M P 0) t){us:List V}(hu:∀x∈us,T P 0 x):
    OW P (iU P t us)/\W2 P.n P.o (T P) (M P 0) (iU P t us)/\(∀x,Hq P (iU P t us) x↔iR (T P 0) (M P 0) (λv=>Hq P t v\/v∈us) x)/\(∀d y,t d=some y->iU P t us d=some y)/\(iU P t us≠t->OG (iU P t us) P.n<OG t P.n):=by
  have h1:=Vc hv hc hp (aG P t us) t us hG hu;have h2:=(vY hv hc hp _ _ us hG (zS hv hc c hu) (Nat.le_refl _)).fin (lvl hv hc) SH (QA hv hc);have h3:=Rp hv hc hp (aG P t us) t us hG hu;refine⟨h1,h2.1,h2.2,h3,λAQ=>?_⟩;have:∃d,iU P t us d≠t d:=Classical.byContradiction λq=>AQ (funext λd=>Classical.byContradiction λq2=>q ⟨d,q2⟩)
  obtain⟨d,hd⟩:=this;have ht:t d=none:=by
    cases hq:t d with
    |none=>rfl
    |some y=>exact absurd ((h3 d y hq).trans hq.symm) hd
  rw[ht]at hd;have NY:d<P.n:=by
    cases hq:iU P t us d with
    |none=>exact absurd hq hd
    |some y=>exact(h1 d y hq).1
  exact(Rn h3 P.n).2 d NY ht hd
omit hp in
theorem Rq{t:Nat->Option V}(c:W2 P.n P.o (T P) (M P 0) t):SI P (Hq P t) (V5 P t 0):=
  ⟨_,kR hv hc (aI hv hc) (lvl hv hc) c (wR hv hc c),rfl⟩
end
end Go.Proofs.YtgknbnkmilddhaaGreat

namespace Go.Proofs.YtgknbnkmilddhaaGreat
theorem sN{α:Type}:∀(l1 l2:List α),l1.Nodup->(∀x∈l1,x∈l2)->l1.length<=l2.length:=by
  intro l1;induction l1 with
  |nil=>intro l2 _ _;simp
  | cons a t ih=>
    intro l2 hn hs;rw[List.nodup_cons]at hn;obtain⟨s,r,rfl⟩:=List.append_of_mem (hs a List.mem_cons_self);have:=ih (s++r) hn.2 (λx hx=>by
      have h1:=hs x (List.mem_cons_of_mem _ hx);rcases List.mem_append.1 h1 with q|q
      · exact List.mem_append.2 (.inl q)
      rcases List.mem_cons.1 q with q|q
      · subst q;exact absurd hx hn.1
      exact List.mem_append.2 (.inr q))
    simp only[List.length_append,List.length_cons]at this ⊢;omega
def sbV(os:List Int)(P:Pc)(m:Nat):V->Prop:=λx=>T P 0 x/\∀t:Nat,t<nG os->C5 os t=x->m.testBit t=true
noncomputable def LO(os:List Int)(pw:List (List Int))(cj:List (List (List Int)))(m:Nat):List V:=Gg os pw cj (sbV os (pc os pw cj) m)
def oX(os:List Int)(pw:List (List Int))(cj:List (List (List Int)))(m:Nat):Prop:=∃S,E5 (T (pc os pw cj) 0) (M (pc os pw cj) 0) S/\HK os S=m
structure aQ(os:List Int)(pw:List (List Int))(cj:List (List (List Int)))(Ms:List Nat)(i x:Nat):Prop where
  nd:Ms.Nodup
  sub:∀m∈Ms,oX os pw cj m
  one:HK os (λx=>x=z0)∈Ms
  cl:∀j t:Nat,(j<i\/(j=i/\t<x))->t<nG os->j<Ms.length->∀S,E5 (T (pc os pw cj) 0) (M (pc os pw cj) 0) S->HK os S=Ms.getD j 0->¬S (C5 os t)->HK os (Jn (pc os pw cj) S (C5 os t))∈Ms
section
variable{os:List Int}{pw:List (List Int)}{cj:List (List (List Int))}(hp:AF os pw cj)(hc:CG (pc os pw cj) 0)
include hp
theorem Rr{S:V->Prop}(hS:E5 (T (pc os pw cj) 0) (M (pc os pw cj) 0) S):sbV os (pc os pw cj) (HK os S)=S:=by
  funext x
  refine propext ⟨λ⟨h1,h2⟩=>?_,λh=>⟨hS.n h,λt ht e=>DJ.2 ⟨ht,e▸h⟩⟩⟩;obtain⟨t,t1,rfl,_⟩:=OX hp h1;exact(DJ.1 (h2 t t1 rfl)).2
theorem l8(hc:CG (pc os pw cj) 0):HK os (λx=>x=z0)=1:=dH λt=>by
  rw[DJ];have e1:(1:Nat).testBit t=true↔t=0:=by
    have:=IT (m:=0) (y:=0) (t:=t);simpa using this
  rw[e1];refine⟨λ⟨h1,h2⟩=>MH hp h1 (by have:=(JC hp).1;omega) (h2.trans I2.symm),λh=>?_⟩;subst h;exact⟨(JC hp).1,I2⟩
theorem Vn(hc:CG (pc os pw cj) 0):E5 (T (pc os pw cj) 0) (M (pc os pw cj) 0) (λx=>x=z0):=
  V6 hp hc (λx h=>h▸T.zero hp.val 0) rfl (λa b ha hb=>by rw[ha,hb];exact((lvl hp.val hc).g 0).l1 (T.zero hp.val 0))
theorem aQ.start(hc:CG (pc os pw cj) 0):aQ os pw cj [1] 0 0:=
  ⟨AB,λm hm=>⟨_,Vn hp hc,by rw[l8 hp hc];exact(List.mem_singleton.1 hm).symm⟩,by rw[l8 hp hc];simp,λj t q=>A0⟩
omit hp in
theorem aQ.row{Ms:List Nat}{i x:Nat}(h:aQ os pw cj Ms i x)(hx:nG os<=x):aQ os pw cj Ms (i+1) 0:=
  ⟨h.nd,h.sub,h.one,λj t q ht=>h.cl j t A0 ht⟩
omit hp in
theorem aQ.skip{Ms:List Nat}{i x:Nat}(h:aQ os pw cj Ms i x)(hb:(Ms.getD i 0).testBit x=true):aQ os pw cj Ms i (x+1):=
  ⟨h.nd,h.sub,h.one,λj t q ht hj S hS hm hn=>by
    by_cases e:j=i/\t=x
    · obtain⟨rfl,rfl⟩:=e;rw[<-hm]at hb;exact absurd (DJ.1 hb).2 hn
    exact h.cl j t A0 ht hj S hS hm hn⟩
theorem aQ.old{Ms:List Nat}{i x:Nat}(h:aQ os pw cj Ms i x){S:V->Prop}(hS:E5 (T (pc os pw cj) 0) (M (pc os pw cj) 0) S)(hm:HK os S=Ms.getD i 0)(aH:HK os (Jn (pc os pw cj) S (C5 os x))∈Ms):aQ os pw cj Ms i (x+1):=
  ⟨h.nd,h.sub,h.one,λj t q ht hj S' Ax hm' hn=>by
    by_cases e:j=i/\t=x
    · obtain⟨rfl,rfl⟩:=e;rw[QX hp (λ_ q=>Ax.n q) (λ_ q=>hS.n q) (hm'.trans hm.symm)];exact aH
    exact h.cl j t A0 ht hj S' Ax hm' hn⟩
include hc
theorem aQ.new{Ms:List Nat}{i x:Nat}(h:aQ os pw cj Ms i x)(hi:i<Ms.length){S:V->Prop}(hS:E5 (T (pc os pw cj) 0) (M (pc os pw cj) 0) S)(hm:HK os S=Ms.getD i 0)(QR:HK os (Jn (pc os pw cj) S (C5 os x))∉Ms):aQ os pw cj (Ms++[HK os (Jn (pc os pw cj) S (C5 os x))]) i (x+1):=by
  have hg:∀j,j<Ms.length->(Ms++[HK os (Jn (pc os pw cj) S (C5 os x))]).getD j 0=Ms.getD j 0:=λj hj=>by
    rw[List.getD_eq_getElem?_getD,List.getElem?_append_left hj,<-List.getD_eq_getElem?_getD]
  refine⟨?_,λm q=>?_,List.mem_append_left _ h.one,λj t q ht hj S' Ax hm' hn=>?_⟩
  · rw[List.nodup_append];exact⟨h.nd,AB,λa ha b hb e=>QR (by simp at hb;rw[<-hb,<-e];exact ha)⟩
  · rcases List.mem_append.1 q with q|q
    · exact h.sub m q
    exact⟨_,sJ hp hc hS (DP hp x),(List.mem_singleton.1 q).symm⟩
  have bN:j<Ms.length:=A0;rw[hg j bN]at hm';by_cases e:j=i/\t=x
  · obtain⟨rfl,rfl⟩:=e;rw[QX hp (λ_ q=>Ax.n q) (λ_ q=>hS.n q) (hm'.trans hm.symm)];simp
  exact List.mem_append_left _ (h.cl j t A0 ht bN S' Ax hm' hn)
omit hp hc in
theorem aQ.len{Ms:List Nat}{i x:Nat}(h:aQ os pw cj Ms i x):Ms.length<=2^nG os:=by
  have:=sN Ms (List.range (2^nG os)) h.nd λm hm=>by
    obtain⟨S,_,rfl⟩:=h.sub m hm;exact List.mem_range.2 HC
  rwa [List.length_range]at this
theorem aQ.fin{Ms:List Nat}{i x:Nat}(h:aQ os pw cj Ms i x)(hi:Ms.length<=i):Ms.Nodup/\∀m,m∈Ms↔oX os pw cj m:=by
  refine⟨h.nd,λm=>⟨h.sub m,λ⟨S,hS,e⟩=>?_⟩⟩;rw[<-e];refine zM hp hc h.one (λS hS aH t ht hn=>?_) hS;obtain⟨j,hj,e⟩:=List.getElem_of_mem aH;exact h.cl j t (.inl A0) ht hj S hS (by rw[List.getD_eq_getElem?_getD,List.getElem?_eq_getElem hj];exact e.symm) hn
theorem QH{m:Nat}(h:oX os pw cj m):∃S,E5 (T (pc os pw cj) 0) (M (pc os pw cj) 0) S/\HK os S=m/\SI (pc os pw cj) S (LO os pw cj m)/\GL (pc os pw cj) (LO os pw cj m)=S:=by
  obtain⟨S,hS,rfl⟩:=h;have e:LO os pw cj (HK os S)=Gg os pw cj S:=by rw[LO,Rr hp hS]
  rw[e];exact⟨S,hS,rfl,aK hp hc hS,oK hp hc hS⟩
theorem TT{m:Nat}(h:oX os pw cj m):HK os (GL (pc os pw cj) (LO os pw cj m))=m:=by
  obtain⟨S,_,h2,_,h4⟩:=QH hp hc h;rw[h4,h2]
theorem j4{m:Nat}(h:oX os pw cj m):∀x∈LO os pw cj m,T (pc os pw cj) 0 x:=by
  obtain⟨S,h1,_,h3,_⟩:=QH hp hc h;exact λx hx=>h1.n (h3.S hx)
theorem l9{m:Nat}(h:oX os pw cj m):∀k,k<(LO os pw cj m).length->E4 os.length ((LO os pw cj m).getD k z0)<os.length:=by
  obtain⟨S,h1,_,h3,_⟩:=QH hp hc h;intro k hk;exact(h3.at (u:=(LO os pw cj m).getD k z0) (by simp[hk])).1
theorem R8{m:Nat}(h:oX os pw cj m):(LO os pw cj m).length<=6:=by
  obtain⟨S,h1,_,h3,_⟩:=QH hp hc h;have:=h3.len;have hn:(pc os pw cj).n=os.length:=rfl;have:=hp.1.1;omega
theorem key_inj{m m':Nat}(h:oX os pw cj m)(h':oX os pw cj m')(e:ML os.length (LO os pw cj m)=ML os.length (LO os pw cj m')):m=m':=by
  have:=Hl hp (j4 hp hc h) (j4 hp hc h') e;rw[<-TT hp hc h,<-TT hp hc h',this]
theorem TU{Ms:List Nat}(hn:Ms.Nodup)(hm:∀m,m∈Ms↔oX os pw cj m){Y:List (List V)}(h1:Y.Perm (Ms.map (LO os pw cj)))(h2:Y.Pairwise λx y=>¬GH os y x<0):SJ os pw cj Y:=by
  have T8:∀l,l∈Y↔∃S,E5 (T (pc os pw cj) 0) (M (pc os pw cj) 0) S/\SI (pc os pw cj) S l:=λl=>by
    rw[h1.mem_iff,List.mem_map];constructor
    · rintro⟨m,q,rfl⟩;obtain⟨S,q1,_,q3,_⟩:=QH hp hc ((hm m).1 q);exact⟨S,q1,q3⟩
    rintro⟨S,q1,q2⟩;refine⟨HK os S,(hm _).2 ⟨S,q1,rfl⟩,?_⟩;obtain⟨S',r1,r2,r3,_⟩:=QH hp hc ⟨S,q1,rfl⟩;rw[QX hp (λ_ q=>r1.n q) (λ_ q=>q1.n q) r2]at r3;exact r3.uniq hp.val hc q1 q2
  have D0:Y.Nodup:=by
    refine h1.nodup_iff.2 ?_;have:∀l:List Nat,l.Nodup->(∀m∈l,oX os pw cj m)->(l.map (LO os pw cj)).Nodup:=by
      intro l;induction l with
      |nil=>intro _ _;exact List.nodup_nil
      | cons a l ih=>
        intro q1 q2;rw[List.nodup_cons]at q1;rw[List.map_cons,List.nodup_cons];refine⟨λaH=>?_,ih q1.2 λm hm=>q2 m (by simp[hm])⟩;obtain⟨b,hb,e⟩:=List.mem_map.1 aH;have:=TT hp hc (q2 b (by simp[hb]));rw[e,TT hp hc (q2 a AB)]at this;subst this;exact q1.1 hb
    exact this Ms hn λm q=>(hm m).1 q
  refine⟨?_,T8⟩;rw[List.pairwise_iff_getElem]at h2 ⊢;intro i j hi hj NZ;have q:=h2 i j hi hj NZ;have q2:=JD (os:=os) Y[i] Y[j];have q3:GH os Y[i] Y[j]≠0:=λe=>by
    obtain⟨S,s1,s2⟩:=(T8 Y[i]).1 (List.getElem_mem hi);obtain⟨S',s3,s4⟩:=(T8 Y[j]).1 (List.getElem_mem hj);have e2:=Rf s1 s2 s3 s4 e;exact(List.pairwise_iff_getElem.1 D0) i j hi hj NZ e2
  omega
end
noncomputable def BK(os:List Int)(pw:List (List Int))(cj:List (List (List Int))):List (List V):=open Classical in if h:∃L,SJ os pw cj L then Classical.choose h else []
theorem lA{os:List Int}{pw:List (List Int)}{cj:List (List (List Int))}{L:List (List V)}(h:SJ os pw cj L):L=BK os pw cj:=by
  have hx:∃L,SJ os pw cj L:=⟨L,h⟩;rw[BK,dif_pos hx];exact h.uniq (Classical.choose_spec hx)
def QI(Ms:List Nat):List AV:=Ms.map λm:Nat=> .g [.i .u64 (m:Int),.b true]
theorem oY{m:Nat}:∀Ms:List Nat,m∈Ms->bH .u64 (m:Int) (QI Ms)=some (some (.b true)):=by
  intro Ms;induction Ms with
  |nil=>intro h;cases h
  | cons a Ms ih=>
    intro h;show bH .u64 (m:Int) (.g [.i .u64 (a:Int),.b true]::QI Ms)=_
    rw[bH,if_pos rfl];by_cases e:m=a
    · subst e;rw[if_pos rfl]
    rw[if_neg A0];rcases List.mem_cons.1 h with q|q
    · exact absurd q e
    exact ih q
theorem YG{m:Nat}:∀Ms:List Nat,m∉Ms->bH .u64 (m:Int) (QI Ms)=some none/\fZ .u64 (m:Int) (.b true) (QI Ms)=some (QI (Ms++[m])):=by
  intro Ms;induction Ms with
  |nil=>intro _;exact⟨rfl,rfl⟩
  | cons a Ms ih=>
    intro h;have e:¬(m:Int)=a:=λq=>h (by simp;left;omega)
    obtain⟨i1,i2⟩:=ih λq=>h (by simp[q])
    constructor
    · show bH .u64 (m:Int) (.g [.i .u64 (a:Int),.b true]::QI Ms)=_
      rw[bH,if_pos rfl,if_neg e,i1]
    show fZ .u64 (m:Int) (.b true) (.g [.i .u64 (a:Int),.b true]::QI Ms)=_
    rw[fZ,if_pos rfl,if_neg e,i2];rfl
noncomputable def dQ(os:List Int)(pw:List (List Int))(cj:List (List (List Int)))(Ms:List Nat):List AV:=Ms.map λm:Nat=> .g [.s (ML os.length (LO os pw cj m)),.i .u64 (m:Int)]
section
variable{os:List Int}{pw:List (List Int)}{cj:List (List (List Int))}(hp:AF os pw cj)(hc:CG (pc os pw cj) 0)
include hp hc
theorem Hr{m:Nat}:∀Ms:List Nat,(∀a∈Ms,oX os pw cj a)->m∈Ms->IE (.s (ML os.length (LO os pw cj m))) (dQ os pw cj Ms)=some (some (.i .u64 (m:Int))):=by
  intro Ms;induction Ms with
  |nil=>intro _ h;cases h
  | cons a Ms ih=>
    intro hs h;show IE _ (.g [.s (ML os.length (LO os pw cj a)),.i .u64 (a:Int)]::dQ os pw cj Ms)=_
    by_cases e:m=a
    · subst e;have:qR (.s (ML os.length (LO os pw cj m))) (.s (ML os.length (LO os pw cj m)))=some true:=by rw[qR,PT.2 rfl]
      simp only[IE,this]
    have AQ:(ML os.length (LO os pw cj m)==ML os.length (LO os pw cj a))=false:=by
      cases hq:(ML os.length (LO os pw cj m)==ML os.length (LO os pw cj a))with
      |false=>rfl
      |true=>exact absurd (key_inj hp hc (hs m h) (hs a AB) (PT.1 hq)) e
    simp only[IE,qR,AQ];rcases List.mem_cons.1 h with q|q
    · exact absurd q e
    exact ih (λa ha=>hs a (by simp[ha])) q
theorem Ht{m:Nat}(hm:oX os pw cj m):∀Ms:List Nat,(∀a∈Ms,oX os pw cj a)->m∉Ms->PS (.s (ML os.length (LO os pw cj m))) (.i .u64 (m:Int)) (dQ os pw cj Ms)=some (dQ os pw cj (Ms++[m])):=by
  intro Ms;induction Ms with
  |nil=>intro _ _;rfl
  | cons a Ms ih=>
    intro hs h;show PS _ _ (.g [.s (ML os.length (LO os pw cj a)),.i .u64 (a:Int)]::dQ os pw cj Ms)=_
    have AQ:(ML os.length (LO os pw cj m)==ML os.length (LO os pw cj a))=false:=by
      cases hq:(ML os.length (LO os pw cj m)==ML os.length (LO os pw cj a))with
      |false=>rfl
      |true=>exact absurd (key_inj hp hc hm (hs a AB) (PT.1 hq)) λe=>h (by simp[e])
    simp only[PS,qR,AQ];rw[ih (λa ha=>hs a (by simp[ha])) λq=>h (by simp[q])];rfl
end
end Go.Proofs.YtgknbnkmilddhaaGreat
