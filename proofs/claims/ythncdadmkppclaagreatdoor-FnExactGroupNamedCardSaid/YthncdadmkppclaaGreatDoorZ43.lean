import Derived.Shelf.Strings.Search2
import Derived.Test.YthncdadmkppclaaGreatDoorProg
import Derived.Shelf.Vars
import Derived.Test.YthncdadmkppclaaGreatDoorZ21
import Derived.Test.YthncdadmkppclaaGreatDoorZ28
import Derived.Test.YthncdadmkppclaaGreatDoorZ29
import Derived.Test.YthncdadmkppclaaGreatDoorZ42
set_option linter.unusedVariables false
set_option linter.unusedSimpArgs false
namespace Go.Proofs.YthncdadmkppclaaGreatDoor
noncomputable def tL (k:Nat):List UInt8:=(trow k).2.2.data.toList
theorem ppS_all:((List.range 82).map fun k=>(ppS (tL k)).isSome && decide ((tL k).length≤100))=List.replicate 82 true:=by kernel_rfl
end Go.Proofs.YthncdadmkppclaaGreatDoor
namespace Go.Proofs
open Go.Shelf
def Tryz.lays219_ren:Go.Shelf.Ren:=⟨fun|219=>92|217=>106|225=>107|224=>108|267=>109|266=>117|314=>118|n=>n,fun|9=>9|3=>3|4=>4|5=>5|46=>115|146=>149|51=>148|n=>n,fun|1=>2|n=>n⟩
theorem Tryz.lays219:Go.Proofs.Lays.n219 Tryz.prog Tryz.lays219_ren:={
  mixed:=by kernel_rfl
  f217:=Tryz.func106.trans (congrArg some (by kernel_rfl))
  f219:=Tryz.func92.trans (congrArg some (by kernel_rfl))
  f224:=Tryz.func108.trans (congrArg some (by kernel_rfl))
  f225:=Tryz.func107.trans (congrArg some (by kernel_rfl))
  f266:=Tryz.func117.trans (congrArg some (by kernel_rfl))
  f267:=Tryz.func109.trans (congrArg some (by kernel_rfl))
  f314:=Tryz.func118.trans (congrArg some (by kernel_rfl))
  t3:=Tryz.underlying3
  a3:=Tryz.isAgg3
  z3:=Tryz.sizeOf3
  v3:=Tryz.zeroValue3
  t4:=Tryz.underlying4
  a4:=Tryz.isAgg4
  z4:=Tryz.sizeOf4
  v4:=Tryz.zeroValue4
  t5:=Tryz.underlying5
  a5:=Tryz.isAgg5
  z5:=Tryz.sizeOf5
  v5:=Tryz.zeroValue5
  t9:=Tryz.underlying9
  a9:=Tryz.isAgg9
  z9:=Tryz.sizeOf9
  v9:=Tryz.zeroValue9
  t46:=Tryz.underlying115
  a46:=Tryz.isAgg115
  z46:=Tryz.sizeOf115
  v46:=Tryz.zeroValue115
  t51:=Tryz.underlying148
  a51:=Tryz.isAgg148
  z51:=Tryz.sizeOf148
  v51:=Tryz.zeroValue148
  t146:=Tryz.underlying149
  a146:=Tryz.isAgg149
  z146:=Tryz.sizeOf149
  v146:=Tryz.zeroValue149
  g1:=by kernel_rfl}
open Go.RowKit Go.Lib in

theorem Tryz.stringslite_Index_one (s:ByteArray) (c:UInt8) (w:World):
    Calls Tryz.prog 92 #[.string s,.string ⟨#[c]⟩] w fun e w'=>e= .returned (.int .i64 (Lib.indexByte s.data.toList c))∧w'=w:=Any.stringslite_Index_one Tryz.lays219 s c w
end Go.Proofs
namespace Go.Proofs.YthncdadmkppclaaGreatDoor
def GV (g:Nat) (w:World):Prop:=g<w.heap.size∧∃m,w.cell? ⟨g,0,none⟩=some (.int .i64 m)
def CG (g:Nat) (cX:Ctx):Prop:=¬LB cX.L0 cX.H0 g∧GV g cX.w0
theorem GV.heap {g:Nat} {w w':World} (h:GV g w) (hs:w.heap.size≤w'.heap.size) (hh:w'.heap[g]? =w.heap[g]?):GV g w':=by
  obtain⟨h1,m,h2⟩:=h
  refine⟨by omega,m,?_⟩
  rw[←h2]
  simp only[World.cell?,hh]
def ACw (g:Nat) (P:Program) (f:FuncId) (nx:Nat) (H:HP) (xs:List AV) (Q:Nat→HP→AV→Prop):Prop:=
  Ent P f∧∀(L:LM) (Av:Nat→Prop) (w:World) (us:Array Value),SR L H Av w→(∀i,nx≤i→L i=none)→ArgsR L w (MM L H Av) xs us→¬LB L H g→GV g w→
    Calls P f us w fun e w'=>∃u r L' nx' H',e= .returned u∧Q nx' H' r∧nx≤nx'∧(∀i,nx'≤i→L' i=none)∧(∀i,i<nx→L' i=L i)∧SR L' H' Av w'∧Step L H w L' H' w'∧R L' w' (MM L' H' Av) r u
theorem AC.w {g:Nat} {P:Program} {f:FuncId} {nx:Nat} {H:HP} {xs:List AV} {Q:Nat→HP→AV→Prop} (h:AC P f nx H xs Q):ACw g P f nx H xs Q:=⟨h.1,fun L Av w us a b c _ _=>h.2 L Av w us a b c⟩
theorem ACw.mono {g:Nat} {P:Program} {f:FuncId} {nx:Nat} {H:HP} {xs:List AV} {Q Q':Nat→HP→AV→Prop} (h:ACw g P f nx H xs Q) (hq:∀n H r,Q n H r→Q' n H r):ACw g P f nx H xs Q':=
  ⟨h.1,fun L Av w us a b c d e=>(h.2 L Av w us a b c d e).mono fun e w' ⟨u,r,L',nx',H',h1,h2,h3⟩=>⟨u,r,L',nx',H',h1,hq _ _ _ h2,h3⟩⟩
theorem ACw.intro {g:Nat} {P:Program} {Γ:TEnv} (hG:GOk P Γ) {f:FuncId} {fn:Func} {c:Code} {n:Nat} {rs:Array ResultVar} (hf:P.funcs[f]? =some fn) (hb:fn.body=some c) (hn:(fn.name== "runtime.NumGoroutine")=false) (hnt:fn.ntmps=n) (hres:fn.results=rs) {xs:List AV} {nx:Nat} {H:HP} {Q:Nat→HP→AV→Prop}
    (h:∀cX:Ctx,CG g cX→cX.rd=none→cX.rf=true→AW cX P c ⟨xs++List.replicate (n-xs.length) .j,H,nx⟩ (finK Γ rs.toList Q)):ACw g P f nx H xs Q:=
  ⟨⟨fn,hf,by rw[hb];rfl,hn⟩,fun L Av w us hs hfr ha hl hg=>AC.run hG hf hb rfl hs hfr ha (by rw[hnt,hres];exact h ⟨none,true,nx,L,H,w,Av⟩ ⟨hl,hg⟩ rfl rfl)⟩
def ACow (g:Nat) (P:Program) (f:FuncId) (xs:List AV) (X:AV):Prop:=∀nx,ACw g P f nx noH xs fun nx' H' r=>∃ids,Own nx nx' H' r X ids
theorem ACw.own {g:Nat} {P:Program} {f:FuncId} {nx:Nat} {H:HP} {xs ts:List AV} {X:AV} {K:Nat→HP→AV→Prop} (h:ACow g P f ts X) (hv:Vws H xs ts)
    (hk:∀nx' H' r ids,nx≤nx'→(∀i,i<nx→H' i=H i)→Own nx nx' H' r X ids→K nx' H' r):ACw g P f nx H xs K:=by
  obtain⟨he,hrun⟩:=h nx
  refine⟨he,fun L Av w us hs hfr ha hgl hgv=>(hrun L Av w us (SR_noH hs.avlt) hfr (by rw[MM_noH];exact ha.view hs hv) LB_noH hgv).mono ?_⟩
  rintro e w' ⟨u,r,L',nx',H',h1,⟨ids,⟨h2,h2',h2''⟩⟩,h3,h4,h5,h6,h7,h8⟩
  obtain⟨hf1,hf2⟩:=h2.fl
  have hHn:∀i,nx≤i→H i=none:=by
    intro i hi
    cases hh:H i with
    |none=>rfl
    |some cs=>obtain⟨l,g1,_⟩:=hs.node i cs hh;rw[hfr i hi]at g1;cases g1
  let H2:HP:=fun i=>if i<nx then H i else if i∈ids then H' i else none
  have hlow:∀i,i<nx→H2 i=H i:=fun i hi=>by simp only[H2,hi,if_true]
  have hids:∀i∈ids,H2 i=H' i:=by
    intro i hi
    have:=h2'' i hi
    simp only[H2]
    rw[if_neg (by omega),if_pos hi]
  have hk':∀b,b<w.heap.size→w'.heap[b]? =w.heap[b]? :=fun b hb=>h7.keep b hb LB_noH
  --the live ones
  have live:∀i cs,H2 i=some cs→(i<nx∧H i=some cs)∨(i∈ids∧nx≤i∧H' i=some cs):=by
    intro i cs hi
    simp only[H2]at hi
    split at hi
    · exact .inl ⟨by assumption,hi⟩
    · split at hi
      · exact .inr ⟨by assumption,by omega,hi⟩
      · cases hi
  have newblk:∀i cs l,H' i=some cs→L' i=some l→w.heap.size≤l.blk:=by
    intro i cs l g1 g2
    apply Classical.byContradiction
    intro hlt
    exact LB_noH (h7.old l.blk (by omega) ⟨i,cs,l,g1,g2,rfl⟩)
  have hst:Step L H w L' H2 w':=by
    refine⟨h7.le,h7.os,h7.tape,h7.output,h7.size,fun b hb _=>hk' b hb,?_⟩
    rintro b hb ⟨i,cs,l,g1,g2,g3⟩
    rcases live i cs g1 with ⟨g4,g5⟩|⟨g4,g5,g6⟩
    · exact⟨i,cs,l,g5,by rw[←h5 i g4];exact g2,g3⟩
    · have:=newblk i cs l g6 g2;omega
  have hsr:SR L' H2 Av w':=by
    refine⟨?_,?_,?_,fun b hb=>Nat.lt_of_lt_of_le (hs.avlt b hb) h7.size⟩
    · intro i cs hi
      rcases live i cs hi with ⟨g4,g5⟩|⟨g4,g5,g6⟩
      · obtain⟨l,g7,hnd⟩:=hs.node i cs g5
        exact⟨l,by rw[h5 i g4];exact g7,hnd.mono (hk' _ hnd.lt) fun k x hk c g13=>g13.step hst⟩
      · obtain⟨l,g7,hnd⟩:=h6.node i cs g6
        refine⟨l,g7,hnd.mono rfl fun k x hk c g13=> ?_⟩
        obtain⟨cs',g14,g15⟩:=hf2 i g4
        rw[g6]at g14;cases g14
        exact g13.fl (fun _ _ h=>h) (g15 k x hk)
    · intro i i' cs cs' l l' g1 g2 g3 g4 g5
      rcases live i cs g1 with ⟨q1,q2⟩|⟨q1,q2,q3⟩<;>rcases live i' cs' g2 with ⟨q4,q5⟩|⟨q4,q5',q6⟩
      · exact hs.inj i i' cs cs' l l' q2 q5 (by rw[←h5 i q1];exact g3) (by rw[←h5 i' q4];exact g4) g5
      · have a1:=LB_lt hs ⟨i,cs,l,q2,by rw[←h5 i q1];exact g3,rfl⟩
        have a2:=newblk i' cs' l' q6 g4
        omega
      · have a1:=LB_lt hs ⟨i',cs',l',q5,by rw[←h5 i' q4];exact g4,rfl⟩
        have a2:=newblk i cs l q3 g3
        omega
      · exact h6.inj i i' cs cs' l l' q3 q6 g3 g4 g5
    · intro i cs l g1 g2
      rcases live i cs g1 with ⟨q1,q2⟩|⟨q1,q2,q3⟩
      · exact hs.av i cs l q2 (by rw[←h5 i q1];exact g2)
      · exact h6.av i cs l q3 g2
  refine⟨u,r,L',nx',H2,h1,hk nx' H2 r ids h3 hlow ⟨h2.keep hids,h2',h2''⟩,h3,h4,h5,hsr,hst,h8.fl (fun _ _ h=>h) hf1⟩
section
variable {P:Program} {Γ:TEnv} {cX:Ctx}
theorem CG.at {g:Nat} (h:CG g cX) {L:LM} {H:HP} {w:World} (st:Step cX.L0 cX.H0 cX.w0 L H w):¬LB L H g∧GV g w:=by
  obtain⟨h1,h2⟩:=h
  exact⟨fun hl=>h1 (st.old g h2.1 hl),h2.heap st.size (st.keep g h2.1 h1)⟩
theorem XC.callw {g:Nat} (hcg:CG g cX) {o:Oper} {lo hi:Nat} {s:St} {K':St→Prop} {f:FuncId} {args:Array Operand} {tys:Array TypeId} (ho:o.op= .call ⟨.value (.func f),args,tys⟩)
    (h:ACw g P f s.nx s.H (args.toList.map (evo s.t)) fun nx' H' r=>K' ⟨putA s.t o.dst r,H',nx'⟩):XC cX P o lo hi s K':=by
  intro L a w K Q c hK
  have h1:=run_enter h.1 ho (show a.eval (.func f)= .func (.func f) #[] #[]from rfl) w
  obtain⟨g1,g2⟩:=hcg.at c.st
  have h2:=h.2 L cX.Av w _ c.sr c.fr (args_of ho (fun x _=>c.ev x)) g1 g2
  have h3:QV P o a.eval w fun u w'=>∃r L' nx' H',K' ⟨putA s.t o.dst r,H',nx'⟩∧s.nx≤nx'∧(∀i,nx'≤i→L' i=none)∧(∀i,i<s.nx→L' i=L i)∧SR L' H' cX.Av w'∧Step L s.H w L' H' w'∧R L' w' (MM L' H' cX.Av) r u:=by
    unfold QV
    rw[h1]
    exact h2.mono fun e w' ⟨u,r,L',nx',H',g1,g2,g3,g4,g5,g6,g7,g8⟩=>⟨u,g1,r,L',nx',H',g2,g3,g4,g5,g6,g7,g8⟩
  refine h3.wp ?_
  rintro u w' ⟨r,L',nx',H',g1,g2,g3,g4,g5,g6,g7⟩
  obtain⟨q1,q2,q3⟩:=put_fits (a:=a) c.sz (fun k y hk=>(c.sl k y hk).step g6) o.dst g7
  have h4:=c.hi
  have h5:=c.nlo
  have h6:=c.nx
  refine hK _ L' _ w' g1 ⟨⟨dfp q1 (c.df.step c.sr g6),q2,q3,g5,g3,by simp only;omega,?_,c.st.trans g6⟩,?_,by simp only;omega,by omega⟩
  · intro i hi';rw[g4 i (by omega)];exact c.lo i hi'
  · intro i h7 h8;rw[g4 i (by omega)];exact c.free i (by omega) h8
end
theorem split_w (s sep:ByteArray) (hs:s.size<4294967281) (h1:1≤sep.size) (hl:(Lib.splitB sep 0 (Lib.countB s sep) s).length=Lib.countB s sep+1) (nx:Nat) (H:HP):ACw 2 Tryz.prog 41 nx H [.s s,.s sep] (fun nx' H' r=>(nx'=nx∧H'=H)∧r=strs (Lib.splitB sep 0 (Lib.countB s sep) s)):=by
  refine⟨⟨_,Tryz.func41,by kernel_rfl,by kernel_rfl⟩,fun L Av w us hs' hfr ha hgl hgv=> ?_⟩
  obtain⟨u,v,rfl,g1,g2⟩:=args2 ha
  rw[g1.s_inv,g2.s_inv]
  obtain⟨_,m,hm⟩:=hgv
  refine(Tryz.strings_Split s sep m w hs hm h1).mono ?_
  rintro e w' ⟨rfl,rfl⟩
  have st0:Step L noH w L noH (w.alloc (.cells ((Lib.splitB sep 0 (Lib.countB s sep) s).map Value.string).toArray 9)):=Step.of_alloc _ (fun _ _ h=>h) (fun _ _ h=>h)
  obtain⟨hsr,hst⟩:=hs'.kept st0
  refine⟨_,_,L,nx,H,rfl,⟨⟨rfl,rfl⟩,rfl⟩,Nat.le_refl _,hfr,fun _ _=>rfl,hsr,hst,?_⟩
  unfold strs
  rw[hl]
  refine .v _ _ w.heap.size 0 _ _ _ _ (fun k=> .string ((Lib.splitB sep 0 (Lib.countB s sep) s).getD k ByteArray.empty)) (fun hM=> ?_) (heap_alloc_new _ _) (Nat.le_refl _) ?_ ?_
  · have:=MM_lt hs' _ hM;omega
  · intro k hk
    rw[List.length_map]at hk
    simp[hk]
  · intro k x hk
    rw[List.getElem?_map]at hk
    obtain⟨y,hy,rfl⟩:=Option.map_eq_some_iff.1 hk
    have:(Lib.splitB sep 0 (Lib.countB s sep) s).getD k ByteArray.empty=y:=by rw[List.getD_eq_getElem?_getD,hy];rfl
    rw[this]
    exact .s _
end Go.Proofs.YthncdadmkppclaaGreatDoor
