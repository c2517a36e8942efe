import Derived.Test.YtghmeeifjeafmaaGreatZ15
import Derived.Test.YtghmeeifjeafmaaGreatZ16
import Derived.Test.YtghmeeifjeafmaaGreatZ19
set_option linter.unusedVariables false
set_option linter.unusedSimpArgs false
namespace Go.Proofs.YtghmeeifjeafmaaGreat
noncomputable def y9(P:Pc)(z y:V):V:=M P 0 (inv P 0 z) (M P 0 (inv P 0 y) (M P 0 z y))
noncomputable def MD(P:Pc)(t:Nat→Option V)(y:V):Nat→List V
  |0=>[]
  | e+1=>match t e with
    |none=>MD P t y e
    |some z=>MD P t y e++[y9 P z y]
noncomputable def OT(P:Pc)(t:Nat→Option V)(x:V):Nat×V:=HE (WB P) t P.n P.n x
noncomputable def bL(P:Pc)(t:Nat→Option V)(q:List V)(s:Nat×V):(Nat→Option V)×List V:=
  if s.1=P.n then (t,q)else (oset t s.1 (P7 P s),q++[s.2]++[LL P (P7 P s) (P.o s.1)]++MD P t (P7 P s) P.n)
noncomputable def qE(P:Pc):Nat→(Nat→Option V)→List V→Nat→Option V
  |0,t,_=>t
  |f+1,t,w=>if w.length=0 then t else qE P f (bL P t (w.drop 1) (OT P t (w.getD 0 z0))).1 (bL P t (w.drop 1) (OT P t (w.getD 0 z0))).2
section
variable{P:Pc}(hv:F9 P)(hc:DI P 0)
theorem bM{t:Nat→Option V}{y:V}:∀e,(MD P t y e).length≤e:=by
  intro e;induction e with
  |zero=>exact Nat.le_refl _
  | succ e ih=>
    rw[MD];split
    · omega
    rw[List.length_append];simp;omega
theorem UX{t:Nat→Option V}{y:V}:∀k v,v∈MD P t y k↔∃e z,e<k∧t e=some z∧v=y9 P z y:=by
  intro k;induction k with
  |zero=>intro v;rw[MD];exact⟨fun h=>(by cases h),fun ⟨e,z,h,_⟩=>(by omega)⟩
  | succ k ih=>
    intro v;rw[MD];split
    · rename_i hk;rw[ih v];constructor
      · rintro⟨e,z,h1,h3,h4⟩;exact⟨e,z,by omega,h3,h4⟩
      rintro⟨e,z,h1,h3,h4⟩;refine⟨e,z,?_,h3,h4⟩;rcases Nat.lt_or_ge e k with q|q
      · exact q
      rw[show e=k by omega,hk]at h3;cases h3
    rename_i w hk;rw[List.mem_append,ih v,List.mem_singleton];constructor
    · rintro(⟨e,z,h1,h3,h4⟩|h)
      · exact⟨e,z,by omega,h3,h4⟩
      exact⟨k,w,by omega,hk,h⟩
    rintro⟨e,z,h1,h3,h4⟩;rcases Nat.lt_or_ge e k with q|q
    · exact .inl ⟨e,z,q,h3,h4⟩
    obtain rfl:e=k:=by omega
    rw[hk]at h3;cases h3;exact .inr h4
include hv hc
theorem Bs{y z:V}(hy:T P 0 y)(hz:T P 0 z):T P 0 (y9 P z y):=by
  have g:=BO hv hc;exact g.cl (DY g hz).1 (g.cl (DY g hy).1 (g.cl hz hy))
theorem qF{y z:V}(hy:T P 0 y)(hz:T P 0 z):Cm (M P 0) y z (y9 P z y):=by
  have g:=BO hv hc;right
  obtain⟨y1,y2⟩:=DY g hy;obtain⟨z1,z2⟩:=DY g hz;have n1:=g.cl hz hy;unfold y9;rw[g.ac hy hz (g.cl z1 (g.cl y1 n1)),←g.ac hz z1 (g.cl y1 n1),z2,g.l1 (g.cl y1 n1),←g.ac hy y1 n1,y2,g.l1 n1]
theorem UY{t:Nat→Option V}(hG:LN P t){x:V}(hx:T P 0 x):(OT P t x).1≤P.n∧T P (OT P t x).1 (OT P t x).2∧((OT P t x).1<P.n→t (OT P t x).1=none∧(OT P t x).2 (OT P t x).1≠0):=by
  have l:=lvl hv hc;have h1:=bJ (rd:=WB P) (t:=t) P.n (Nat.le_refl _) x;have h2:=eS l (t:=t) (rd:=WB P) (fun d y x h1 h2 h3=>US hv hc d y x h1 (hG d y h2).2.1 (hG d y h2).2.2 h3) P.n (Nat.le_refl _) x (by rw[Nat.sub_self];exact hx);unfold OT;rcases h1 with h1|⟨h3,h4,h5,h6⟩
  · exact⟨by omega,h2,fun h=>by omega⟩
  exact⟨by omega,h2,fun _=>⟨h5,h6⟩⟩
theorem j4{t:Nat→Option V}(hG:LN P t){q:List V}{x:V}(hx:T P 0 x):P8 P (bL P t q (OT P t x)).1 (bL P t q (OT P t x)).2<bF t P.n*(P.n+3)+(q.length+1):=by
  obtain⟨i2,i3,i4⟩:=UY hv hc hG hx;obtain⟨s,hs⟩:∃s,OT P t x=s:=⟨_,rfl⟩;rw[hs]at i2 i3 i4 ⊢;unfold P8 bL;split
  · dsimp only;omega
  rename_i AL;obtain⟨j1,j2⟩:=i4 (by omega);have h2:=(iV (y:=P7 P s) j1 P.n).2 (by omega);have h3:=bM (P:=P) (t:=t) (y:=P7 P s) P.n;dsimp only;rw[←h2,Nat.add_mul,Nat.one_mul];simp only[List.length_append,List.length_cons,List.length_nil];omega
variable(hp:∀d,d<P.n→J0 (P.o d)){us:V→Prop}
include hp
theorem qG{t:Nat→Option V}(hG:LN P t){q:List V}(hq:∀x∈q,T P 0 x){x:V}(hx:T P 0 x):LN P (bL P t q (OT P t x)).1∧∀z∈(bL P t q (OT P t x)).2,T P 0 z:=by
  obtain⟨i2,i3,i4⟩:=UY hv hc hG hx;obtain⟨s,hs⟩:∃s,OT P t x=s:=⟨_,rfl⟩;rw[hs]at i2 i3 i4 ⊢;unfold bL;split
  · exact⟨hG,hq⟩
  rename_i AL;obtain⟨j1,j2⟩:=i4 (by omega);obtain⟨y1,y2⟩:=RA hv hc hp (by omega) i3 j2;have bG:=y1.mono hv (Nat.zero_le _);refine⟨fun d z hz=>?_,fun z hz=>?_⟩
  · dsimp only at hz;unfold oset at hz;split at hz
    · rename_i e;subst e;cases hz;exact⟨by omega,y1,y2⟩
    exact hG d z hz
  dsimp only at hz;rcases List.mem_append.1 hz with h|h
  · rcases List.mem_append.1 h with h|h
    · rcases List.mem_append.1 h with h|h
      · exact hq z h
      rw[List.mem_singleton.1 h];exact i3.mono hv (Nat.zero_le _)
    rw[List.mem_singleton.1 h];exact bB hv hc bG _
  obtain⟨e,w,_,e3,rfl⟩:=(UX _ _).1 h;exact Bs hv hc bG ((hG e w e3).2.1.mono hv (Nat.zero_le _))
theorem yA{t:Nat→Option V}{q:List V}{x:V}(hG:LN P t)(h:Inv P.n P.o (T P) (M P 0) (WB P) us t (fun v=>v∈x::q)):
    Inv P.n P.o (T P) (M P 0) (WB P) us (bL P t q (OT P t x)).1 (fun v=>v∈(bL P t q (OT P t x)).2):=by
  have l:=lvl hv hc;have JA:x∈x::q:=List.mem_cons_self;have hx:T P 0 x:=h.wn x JA;obtain⟨i2,i3,i4⟩:=UY hv hc hG hx;obtain⟨s,hs⟩:∃s,OT P t x=s:=⟨_,rfl⟩;have My:s=HE (WB P) t P.n P.n x:=hs.symm;rw[hs]at i2 i3 i4 ⊢;unfold bL;split
  · rename_i h1;refine h.drop l UU (US hv hc) JA (by rw[←My];exact h1) (fun v hw=>?_) (fun v hw=>List.mem_cons_of_mem _ hw);exact List.mem_cons.1 hw
  rename_i AL;have hd:s.1<P.n:=by omega
  obtain⟨j1,j2⟩:=i4 hd;obtain⟨y1,y2⟩:=RA hv hc hp hd i3 j2;have bG:=y1.mono hv (Nat.zero_le _);have Te:=i3.mono hv (Nat.zero_le _);have ho:=l.op hd;have gL:LL P (P7 P s) (P.o s.1)=rep (M P 0) (P7 P s) (P.o s.1).toNat:=by unfold LL;rw[if_neg (by omega)]
  dsimp only;rw[gL];refine Inv.add l (US hv hc) h JA (d:=s.1) (r:=s.2) (y:=P7 P s) (by rw[←My]) hd y1 y2 (Cy.pw hv hc Te _) (fun v hw=>?_) ?_ ?_ (fun e z h1 h2=>?_) (fun v hw=>?_)
  · rcases List.mem_cons.1 hw with q|q
    · exact .inl q
    exact .inr (by simp[q])
  · simp
  · simp
  · refine⟨y9 P z (P7 P s),?_,qF hv hc bG ((hG e z h2).2.1.mono hv (Nat.zero_le _))⟩;exact List.mem_append.2 (.inr ((UX _ _).2 ⟨e,z,(hG e z h2).1,h2,rfl⟩))
  rcases List.mem_append.1 hw with q|q
  · rcases List.mem_append.1 q with q|q
    · rcases List.mem_append.1 q with q|q
      · exact .inl (List.mem_cons_of_mem _ q)
      exact .inr (.inl (List.mem_singleton.1 q))
    exact .inr (.inr (.inl (List.mem_singleton.1 q)))
  obtain⟨e,z,e1,e3,rfl⟩:=(UX _ _).1 q;have hz:=(hG e z e3).2.1.mono hv (Nat.zero_le _);exact .inr (.inr (.inr ⟨e,z,e3,qF hv hc bG hz,Bs hv hc bG hz⟩))
theorem yB:∀(f:Nat) (t:Nat→Option V) (w:List V),LN P t→Inv P.n P.o (T P) (M P 0) (WB P) us t (fun v=>v∈w)→P8 P t w≤f→
    Inv P.n P.o (T P) (M P 0) (WB P) us (qE P f t w) (fun _=>False):=by
  have nl:∀(t:Nat→Option V) (w:List V),w.length=0→Inv P.n P.o (T P) (M P 0) (WB P) us t (fun v=>v∈w)→Inv P.n P.o (T P) (M P 0) (WB P) us t (fun _=>False):=by
    intro t w hw h;have e:w=[]:=List.eq_nil_of_length_eq_zero hw;subst e;have e2:(fun v:V=>v∈([]:List V))=fun _=>False:=by funext v;simp
    rw[e2]at h;exact h
  intro f;induction f with
  | zero=>
    intro t w hG h hM;rw[qE];refine nl t w ?_ h;unfold P8 at hM;omega
  | succ f ih=>
    intro t w hG h hM;rw[qE];split
    · rename_i hw;exact nl t w hw h
    rename_i hw;cases w with
    |nil=>exact absurd rfl hw
    | cons x q=>
      have SB:T P 0 x:=h.wn _ List.mem_cons_self;have MC:=j4 hv hc hG (q:=q) SB;show Inv P.n P.o (T P) (M P 0) (WB P) us (qE P f (bL P t q (OT P t x)).1 (bL P t q (OT P t x)).2) _
      refine ih _ _ (qG hv hc hp hG (fun z hz=>h.wn z (List.mem_cons_of_mem _ hz)) SB).1 (yA hv hc hp hG h) ?_;unfold P8 at hM;rw[List.length_cons]at hM;omega
theorem Th:∀(f:Nat) (t:Nat→Option V) (w:List V),LN P t→(∀x∈w,T P 0 x)→LN P (qE P f t w):=by
  intro f;induction f with
  |zero=>intro t w hG _;exact hG
  | succ f ih=>
    intro t w hG hw;rw[qE];split
    · exact hG
    rename_i AL;cases w with
    |nil=>exact absurd rfl AL
    | cons x q=>
      obtain⟨g1,g2⟩:=qG hv hc hp hG (fun z hz=>hw z (List.mem_cons_of_mem _ hz)) (hw x List.mem_cons_self);exact ih _ _ g1 g2
noncomputable def Mz(P:Pc)(us:List V):Nat→Option V:=qE P (P8 P (fun _=>none) us) (fun _=>none) us
theorem Ti{us:List V}(hu:∀x∈us,T P 0 x):LN P (Mz P us):=Th hv hc hp _ _ us (fun d y h=>by cases h) hu
theorem j5{us:List V}(hu:∀x∈us,T P 0 x):XW P.n P.o (T P) (M P 0) (Mz P us)∧∀x,Sg (T P 0) (M P 0) (Mz P us) P.n P.n x↔bI (T P 0) (M P 0) (fun v=>v∈us) x:=
  (yB hv hc hp _ _ us (fun d y h=>by cases h) (Inv.start (W:=fun v=>v∈us) hu) (Nat.le_refl _)).fin (lvl hv hc) UU (US hv hc)
noncomputable def WC(P:Pc)(e:Nat)(w x:V):V:=M P 0 x (rep (M P 0) w (P.o e-x e).toNat)
omit hp in
theorem Z2:∀e w x,e<P.n→T P e w→w e=1→T P 0 x→∃u,Cy (T P 0) (M P 0) w u∧T P e u∧WC P e w x=M P 0 x u∧(x e+u e)%P.o e=0:=by
  intro e w x he hw h1 hx;have l:=lvl hv hc;have hr:=hx.r e (Nat.zero_le e) he;refine⟨rep (M P 0) w (P.o e-x e).toNat,Cy.rep w _,(l.g e).rep hw _,rfl,?_⟩;rw[l.EL he hw h1,Int.toNat_of_nonneg (by omega),Int.add_emod_emod,show x e+(P.o e-x e)=P.o e by omega,Int.emod_self]
noncomputable def dnI(P:Pc)(us:List V)(j:Nat):Nat→Option V:=NN (WC P) (Mz P us) P.n j
theorem yC{us:List V}(hu:∀x∈us,T P 0 x):UT P (bI (T P 0) (M P 0) (fun v=>v∈us)) (dnI P us P.n):=by
  obtain⟨c,hs⟩:=j5 hv hc hp hu;have l:=lvl hv hc;have e:Sg (T P 0) (M P 0) (Mz P us) P.n P.n=bI (T P 0) (M P 0) (fun v=>v∈us):=funext fun x=>propext (hs x)
  have h:=j0 hv hc (Z2 hv hc) l c (c.sub l (Nat.le_refl _));rw[e]at h;exact h
theorem j6{us:List V}(hu:∀x∈us,T P 0 x):HW (T P 0) (M P 0) (bI (T P 0) (M P 0) (fun v=>v∈us)):=by
  obtain⟨c,hs⟩:=j5 hv hc hp hu;have e:Sg (T P 0) (M P 0) (Mz P us) P.n P.n=bI (T P 0) (M P 0) (fun v=>v∈us):=funext fun x=>propext (hs x)
  rw[←e];exact c.sub (lvl hv hc) (Nat.le_refl _)
theorem qH{us:List V}(hu:∀x∈us,T P 0 x):DK (dnI P us P.n) P.n=HJ P us:=
  UW fun d hd=>UT.uniq hv hc (j6 hv hc hp hu) (yC hv hc hp hu) (j3 hv hc hp hu) hd
end
end Go.Proofs.YtghmeeifjeafmaaGreat
namespace Go.Proofs.YtghmeeifjeafmaaGreat
theorem eV{n:Nat}{P:Pc}{d:Nat}{y:V}(hd:d<n)(hT:T P d y)(h1:y d=1):F1 n y=d:=by
  obtain⟨a1,a2,a3,a4⟩:=R5 (x:=y) n 0;unfold F1;rcases Nat.lt_trichotomy (S1 y n 0) d with h|h|h
  · exact absurd (hT.z _ h) (a4 (by omega))
  · exact h
  have:=a3 d (Nat.zero_le d) h;omega
section
variable(os:List Int)(pw:List (List Int))(cj:List (List (List Int)))
end
end Go.Proofs.YtghmeeifjeafmaaGreat
namespace Go.Proofs.YtghmeeifjeafmaaGreat
def qI(P:Pc)(S:V→Prop)(l:List V):Prop:=∃dn,UT P S dn∧l=DK dn P.n
def GL(P:Pc)(us:List V):V→Prop:=bI (T P 0) (M P 0) (fun v=>v∈us)
theorem GL.le{P:Pc}{us:List V}{A:V→Prop}(hA:HW (T P 0) (M P 0) A)(h:∀u∈us,A u){x:V}(hx:GL P us x):A x:=hx A hA h
theorem GL.of{P:Pc}{us:List V}{u:V}(h:u∈us):GL P us u:=fun A hA hu=>hu u h
theorem RD{dn:Nat→Option V}{n:Nat}{y:V}:y∈DK dn n↔∃d,d<n∧dn d=some y:=by
  unfold DK;rw[List.mem_filterMap];exact⟨fun ⟨d,h1,h2⟩=>⟨d,List.mem_range.1 h1,h2⟩,fun ⟨d,h1,h2⟩=>⟨d,List.mem_range.2 h1,h2⟩⟩
section
variable{P:Pc}(hv:F9 P)(hc:DI P 0)
include hv hc
theorem Ir{S A:V→Prop}(hS:HW (T P 0) (M P 0) S)(hA:HW (T P 0) (M P 0) A)(key:∀d,d<P.n→∀x,S x→T P d x→x d≠0→∃z,A z∧S z∧T P d z∧z d=1):∀x,S x→A x:=by
  have l:=lvl hv hc;have go:∀f,f≤P.n→∀x,S x→T P (P.n-f) x→A x:=by
    intro f;induction f with
    |zero=>intro _ x _ hx;rw[UU x hx];exact hA.e
    | succ f ih=>
      intro hf x hx hT;have e:P.n-f=P.n-(f+1)+1:=by omega
      by_cases h0:x (P.n-(f+1))=0
      · exact ih (by omega) x hx (by rw[e];exact l.up hT h0)
      obtain⟨z,z1,z2,z3,z4⟩:=key _ (by omega) x hx hT h0;obtain⟨u,u1,u2,u3,u4⟩:=Z2 hv hc _ z x (by omega) z3 z4 (hS.n hx);have hm:S (M P 0 x u):=hS.mu hx (u1 S hS z2);have lM:T P (P.n-(f+1)) (M P 0 x u):=(l.g _).cl hT u2;have hz:M P 0 x u (P.n-(f+1))=0:=by rw[l.lead (by omega) hT u2,u4]
      have:=ih (by omega) _ hm (by rw[e];exact l.up lM hz);exact hA.r (l.g 0) (u1 A hA z1) (hS.n hx) this
  intro x hx;exact go P.n (Nat.le_refl _) x hx (by rw[Nat.sub_self];exact hS.n hx)
theorem qI.uniq{S:V→Prop}{l l':List V}(hS:HW (T P 0) (M P 0) S)(h:qI P S l)(h':qI P S l'):l=l':=by
  obtain⟨dn,h1,rfl⟩:=h;obtain⟨Br,h2,rfl⟩:=h';exact UW fun d hd=>UT.uniq hv hc hS h1 h2 hd
theorem qI.gen{S:V→Prop}{l:List V}(hS:HW (T P 0) (M P 0) S)(h:qI P S l):S=GL P l:=by
  obtain⟨dn,h1,rfl⟩:=h;funext x
  refine propext ⟨fun hx A hA hu=>?_,fun hx=>hx S hS (fun u hu=>?_)⟩
  · refine Ir hv hc hS hA (fun d hd x hx hT h0=>?_) x hx;cases hz:dn d with
    |none=>exact absurd ⟨x,hx,hT,h0⟩ (h1.no d hd hz)
    | some z=>
      obtain⟨_,a1,a2,a3,_⟩:=h1.el d z hz;exact⟨z,hu z (RD.2 ⟨d,hd,hz⟩),a1,a2,a3⟩
  obtain⟨d,hd,hz⟩:=RD.1 hu;exact(h1.el d u hz).2.1
omit hv hc in
theorem qI.len{S:V→Prop}{l:List V}(h:qI P S l):l.length≤P.n:=by
  obtain⟨dn,h1,rfl⟩:=h;exact PZ
omit hv hc in
theorem qI.S{S:V→Prop}{l:List V}(h:qI P S l){u:V}(hu:u∈l):S u:=by
  obtain⟨dn,h1,rfl⟩:=h;obtain⟨d,hd,hz⟩:=RD.1 hu;exact(h1.el d u hz).2.1
theorem yD{x:V}(hx:T P 0 x):∃k,M P 0 (rep (M P 0) x k) x=z0:=by
  have l:=lvl hv hc;have g:=l.g 0;have go :∀f,f≤P.n→∀x,T P (P.n-f) x→∃k,rep (M P 0) x (k+1)=z0:=by
    intro f;induction f with
    |zero=>intro _ x hx;exact⟨0,by rw[UU x hx];exact g.iJ g.e0⟩
    | succ f ih=>
      intro hf x hx;obtain⟨q1,q2⟩:=EL hv (show P.n-(f+1)<P.n by omega) hx (P.o (P.n-(f+1))).toNat;have ho:=hv.o (P.n-(f+1)) (by omega);have hz:rep (M P 0) x (P.o (P.n-(f+1))).toNat (P.n-(f+1))=0:=by
        rw[q2,Int.toNat_of_nonneg (by omega),Int.mul_emod_right]
      obtain⟨k,hk⟩:=ih (by omega) _ (by rw[show P.n-f=P.n-(f+1)+1 by omega];exact l.up q1 hz);have JA:=hx.mono hv (Nat.zero_le _);have hm:∀j,rep (M P 0) (rep (M P 0) x (P.o (P.n-(f+1))).toNat) j=rep (M P 0) x ((P.o (P.n-(f+1))).toNat*j):=by
        intro j;induction j with
        |zero=>rfl
        | succ j Zc=>
          show M P 0 (rep (M P 0) (rep (M P 0) x (P.o (P.n-(f+1))).toNat) j) _=_
          rw[Zc,←g.EP JA];rfl
      rw[hm]at hk;obtain⟨w,hw⟩:∃w,(P.o (P.n-(f+1))).toNat*(k+1)=w+1:=by
        have:1*1≤(P.o (P.n-(f+1))).toNat*(k+1):=Nat.mul_le_mul (by omega) (by omega);exact⟨_,(Nat.sub_add_cancel (by omega)).symm⟩
      exact⟨w,by rw[←hw];exact hk⟩
  obtain⟨k,hk⟩:=go P.n (Nat.le_refl _) x (by rw[Nat.sub_self];exact hx);exact⟨k,hk⟩
end
section
variable{P:Pc}(hv:F9 P)(hc:DI P 0)
include hv hc
end
section
variable{P:Pc}(hv:F9 P)(hc:DI P 0)(hp:∀d,d<P.n→J0 (P.o d))
include hv hc hp
theorem Z3{us:List V}(hu:∀x∈us,T P 0 x):HW (T P 0) (M P 0) (GL P us):=j6 hv hc hp hu
theorem UZ{us:List V}(hu:∀x∈us,T P 0 x):qI P (GL P us) (HJ P us):=⟨_,j3 hv hc hp hu,rfl⟩
theorem Bt{us:List V}(hu:∀x∈us,T P 0 x):∀x∈HJ P us,T P 0 x:=fun x hx=>(Z3 hv hc hp hu).n ((UZ hv hc hp hu).S hx)
end
end Go.Proofs.YtghmeeifjeafmaaGreat
namespace Go.Proofs.YtghmeeifjeafmaaGreat
theorem Bu:∀(l1 l2:List V),l1.Nodup→(∀x∈l1,x∈l2)→l1.length≤l2.length:=by
  intro l1;induction l1 with
  |nil=>intro l2 _ _;simp
  | cons a t ih=>
    intro l2 hn hs;rw[List.nodup_cons]at hn;obtain⟨s,r,rfl⟩:=List.append_of_mem (hs a List.mem_cons_self);have:=ih (s++r) hn.2 (fun x hx=>by
      have h1:=hs x (List.mem_cons_of_mem _ hx);rcases List.mem_append.1 h1 with q|q
      · exact List.mem_append.2 (.inl q)
      rcases List.mem_cons.1 q with q|q
      · subst q;exact absurd hx hn.1
      exact List.mem_append.2 (.inr q))
    simp only[List.length_append,List.length_cons]at this ⊢;omega
theorem Is{l:List V}{f:V→V}(h:l.Nodup)(hf:∀a∈l,∀b∈l,f a=f b→a=b):(l.map f).Nodup:=by
  unfold List.Nodup at h ⊢;rw[List.pairwise_map];exact h.imp_of_mem fun {a b} ha hb AL e=>AL (hf a ha b hb e)
def uF(o:Nat→Int)(dn:Nat→Option V):Nat→Int
  |0=>1
  | k+1=>match dn k with
    |none=>uF o dn k
    |some _=>uF o dn k*o k
section
variable{P:Pc}(hv:F9 P)(hc:DI P 0)
include hv hc
theorem qJ{S:V→Prop}(hS:HW (T P 0) (M P 0) S){dn:Nat→Option V}(h:UT P S dn):∀f,f≤P.n→∃l:List V,l.Nodup∧(∀x,x∈l↔S x∧T P (P.n-f) x)∧(l.length:Int)*uF P.o dn (P.n-f)=uF P.o dn P.n:=by
  have L:=lvl hv hc;have g:=L.g 0;intro f;induction f with
  | zero=>
    intro _;refine⟨[z0],by simp,fun x=>?_,by simp⟩;rw[List.mem_singleton,Nat.sub_zero];exact⟨fun e=>by subst e;exact⟨hS.e,(L.g _).e0⟩,fun q=>UU x q.2⟩
  | succ f ih=>
    intro hf;obtain⟨l,h1,h2,h3⟩:=ih (by omega);obtain⟨d,hd⟩:∃d,P.n-(f+1)=d:=⟨_,rfl⟩;have O0:P.n-f=d+1:=by omega
    have YI:d<P.n:=by omega
    rw[O0]at h2 h3;rw[hd];cases hz:dn d with
    | none=>
      refine⟨l,h1,fun x=>?_,by rw[←h3,uF,hz]⟩;rw[h2];refine⟨fun q=>⟨q.1,L.mono q.2⟩,fun q=>⟨q.1,?_⟩⟩;by_cases h0:x d=0
      · exact L.up q.2 h0
      exact absurd ⟨x,q.1,q.2,h0⟩ (h.no d YI hz)
    | some y=>
      obtain⟨_,y1,y2,y3,_⟩:=h.el d y hz;have yT:=L.le (Nat.zero_le d) y2;have ho:=L.op YI;have rT:=fun k=>g.rep yT k
      have rS:∀k,S (rep (M P 0) y k):=by
        intro k;induction k with
        |zero=>exact hS.e
        |succ k mV=>exact hS.mu mV y1
      have rl:=L.EL YI y2 y3;have go:∀c:Nat,(c:Int)≤P.o d→∃l2:List V,l2.Nodup∧(∀x,x∈l2↔(S x∧T P d x)∧x d<c)∧l2.length=c*l.length:=by
        intro c;induction c with
        |zero=>exact fun _=>⟨[],by simp,fun x=>⟨fun q=>by simp at q,fun q=>by have:=q.1.2.r d (Nat.le_refl _) YI;have:=q.2;omega⟩,by simp⟩
        | succ c ihc=>
          intro hco;obtain⟨l2,a1,a2,a3⟩:=ihc (by omega);have Mm:rep (M P 0) y c d=c:=by rw[rl c];exact Int.emod_eq_of_lt (by omega) (by omega)
          have hlT:∀s∈l,T P 0 s:=fun s hs=>hS.n ((h2 s).1 hs).1
          have qK:∀s,T P d s→M P 0 (rep (M P 0) y c) s d=(c+s d)%P.o d:=fun s hs=>by
            rw[L.lead YI ((L.g d).rep y2 c) hs,Mm]
          refine⟨l2++l.map (M P 0 (rep (M P 0) y c)),?_,fun x=>?_,by rw[List.length_append,a3,List.length_map,Nat.succ_mul]⟩
          · rw[List.nodup_append];refine⟨a1,Is h1 (fun a ha b hb e=>g.lc (rT c) (hlT a ha) (hlT b hb) e),fun a ha b hb e=>?_⟩;subst e;obtain⟨s,hs,rfl⟩:=List.mem_map.1 hb;have b1:=((a2 _).1 ha).2;have b2:=((h2 s).1 hs).2;rw[qK s (L.mono b2),L.nz b2,Int.add_zero,Int.emod_eq_of_lt (by omega) (by omega)]at b1;omega
          rw[List.mem_append,a2];constructor
          · rintro(⟨q1,q2⟩|q)
            · exact⟨q1,by omega⟩
            obtain⟨s,hs,rfl⟩:=List.mem_map.1 q;obtain⟨s1,s2⟩:=(h2 s).1 hs;refine⟨⟨hS.mu (rS c) s1,(L.g d).cl ((L.g d).rep y2 c) (L.mono s2)⟩,?_⟩;rw[qK s (L.mono s2),L.nz s2,Int.add_zero,Int.emod_eq_of_lt (by omega) (by omega)];omega
          rintro⟨⟨q1,q2⟩,q3⟩;by_cases q4:x d<c
          · exact .inl ⟨⟨q1,q2⟩,q4⟩
          refine .inr (List.mem_map.2 ?_);obtain⟨b,b1,b2,b3⟩:=(L.g d).iv ((L.g d).rep y2 c);have bT:=L.le (Nat.zero_le d) b1;have xT:=L.le (Nat.zero_le d) q2;have bS:S b:=hS.iv (rS c) bT b3;have e:M P 0 (rep (M P 0) y c) (M P 0 b x)=x:=by rw[←g.ac (rT c) bT xT,b3,g.l1 xT]
          have sT:T P d (M P 0 b x):=(L.g d).cl b1 q2;have e2:=qK _ sT;rw[e]at e2;have r1:=sT.r d (Nat.le_refl _) YI;have r2:=q2.r d (Nat.le_refl _) YI;refine⟨M P 0 b x,(h2 _).2 ⟨hS.mu bS q1,L.up sT ?_⟩,e⟩;have hx:x d=c:=by omega
          rw[hx]at e2;by_cases BW:(c:Int)+M P 0 b x d<P.o d
          · rw[Int.emod_eq_of_lt (by omega) BW]at e2;omega
          rw[←Int.sub_emod_right,Int.emod_eq_of_lt (by omega) (by omega)]at e2;omega
      obtain⟨l2,a1,a2,a3⟩:=go (P.o d).toNat (by omega);refine⟨l2,a1,fun x=>?_,?_⟩
      · rw[a2];exact⟨fun q=>q.1,fun q=>⟨q,by have:=q.2.r d (Nat.le_refl _) YI;omega⟩⟩
      rw[←h3,uF,hz,a3,Int.natCast_mul,Int.toNat_of_nonneg (by omega)];dsimp only;rw[Int.mul_comm (uF P.o dn d),←Int.mul_assoc,Int.mul_comm (P.o d) (l.length:Int)]
end
theorem qL{dn:Nat→Option V}{k:Nat}:∀j,∃r,DK dn (k+j)=DK dn k++r:=by
  intro j;induction j with
  |zero=>exact⟨[],by simp⟩
  | succ j ih=>
    obtain⟨r,hr⟩:=ih;cases hz:dn (k+j)with
    |none=>exact⟨r,by rw[←Nat.add_assoc,DR hz,hr]⟩
    |some y=>exact⟨r++[y],by rw[←Nat.add_assoc,ER hz,hr,List.append_assoc]⟩
theorem yE{os:List Int}{pw:List (List Int)}{cj:List (List (List Int))}{S:V→Prop}{dn:Nat→Option V}(h:UT (pc os pw cj) S dn):∀k,k≤os.length→WV os (DK dn os.length) (DK dn k).length=uF (pc os pw cj).o dn k:=by
  intro k;induction k with
  |zero=>intro _;rfl
  | succ k ih=>
    intro hk;rw[uF];cases hz:dn k with
    |none=>rw[DR hz];exact ih (by omega)
    | some y=>
      obtain⟨_,y1,y2,y3,_⟩:=h.el k y hz;obtain⟨r,hr⟩:=qL (dn:=dn) (k:=k+1) (os.length-(k+1));rw[show k+1+(os.length-(k+1))=os.length by omega,ER hz]at hr;have hy:(DK dn os.length).getD (DK dn k).length z0=y:=by
        rw[hr,List.getD_eq_getElem?_getD,List.getElem?_append_left (by simp),List.getElem?_append_right (Nat.le_refl _),Nat.sub_self];rfl
      rw[ER hz,List.length_append,List.length_singleton,WV,ih (by omega),hy,eV (P:=pc os pw cj) hk y2 y3];rfl
theorem yF{os:List Int}{pw:List (List Int)}{cj:List (List (List Int))}(hp:AI os pw cj)(hc:DI (pc os pw cj) 0){S:V→Prop}(hS:HW (T (pc os pw cj) 0) (M (pc os pw cj) 0) S){l pts:List V}(h:qI (pc os pw cj) S l)
    (hn:pts.Nodup) (hm:∀x,x∈pts↔S x):(pts.length:Int)=WV os l l.length:=by
  obtain⟨dn,h1,rfl⟩:=h;obtain⟨l2,a1,a2,a3⟩:=qJ hp.val hc hS h1 (pc os pw cj).n (Nat.le_refl _);rw[Nat.sub_self]at a2 a3;rw[uF,Int.mul_one]at a3;have e1:=Bu pts l2 hn (fun x hx=>(a2 x).2 ⟨(hm x).1 hx,hS.n ((hm x).1 hx)⟩);have e2:=Bu l2 pts a1 (fun x hx=>(hm x).2 ((a2 x).1 hx).1);have e3:=yE (os:=os) h1 os.length (Nat.le_refl _);have LV:(pc os pw cj).n=os.length:=rfl;rw[LV]at a3 ⊢;rw[e3,←a3];omega
end Go.Proofs.YtghmeeifjeafmaaGreat
namespace Go.Proofs.YtghmeeifjeafmaaGreat
structure dE(P:Pc)(xs:List V)(tb:List (List Int))(n:Nat)(q:Nat→V)(c:Nat→Nat→Nat):Prop where
  len:tb.length=xs.length
  rl:∀g,g<tb.length→(tb.getD g []).length=n
  n1:1≤n
  xT:∀g,g<tb.length→T P 0 (xs.getD g z0)
  qT:∀k,k<n→T P 0 (q k)
  inj:∀i j,i<n→j<n→q i=q j→i=j
  q0:q 0=z0
  bN:∀g x,g<tb.length→x<n→∃e:Nat,(tb.getD g []).getD x 0=e∧e<n∧e≤c x g∧q e=M P 0 (q x) (xs.getD g z0)∧c x (g+1)=if e=c x g then c x g+1 else c x g
  c0:c 0 0=1
  cs:∀x,x<n→c (x+1) 0=c x tb.length
  cn:∀x,x<n→x<c x 0
theorem It:fl []=z0:=by funext k;simp[fl,z0]
theorem j7{us:List (List Int)}{xs:List V}(hu:us.map fl=xs){g:Nat}:uD us g=xs.getD g z0:=by
  subst hu;rw[uD,List.getD_eq_getElem?_getD,List.getD_eq_getElem?_getD,List.getElem?_map];cases us[g]? with
  |none=>exact It
  |some a=>rfl
section
variable{P:Pc}(hv:F9 P)(hc:DI P 0){xs:List V}{tb:List (List Int)}{n:Nat}{q:Nat→V}{c:Nat→Nat→Nat}(h:dE P xs tb n q c)
include h
theorem dE.Zd{x:Nat}(hx:x<n):∀g,g≤tb.length→E2 tb x g (c x 0)=c x g:=by
  intro g;induction g with
  |zero=>intro _;rfl
  | succ g ih=>
    intro hg;obtain⟨e,e1,e2,e3,e4,e5⟩:=h.bN g x (by omega) hx;rw[E2,ih (by omega),e1,e5];by_cases he:e=c x g
    · rw[if_pos (by omega),if_pos he];rfl
    rw[if_neg (by omega),if_neg he]
theorem dE.Tj:∀x,x≤n→CF tb x=c x 0:=by
  intro x;induction x with
  |zero=>intro _;rw[CF,h.c0];rfl
  | succ x ih=>
    intro hx;rw[CF,ih (by omega),h.Zd (by omega) _ (Nat.le_refl _),h.cs x (by omega)]
theorem dE.num:eK tb n:=fun x hx=>by
  have hn:=h.Tj x (by omega);refine⟨by rw[hn];have:=h.cn x hx;omega,fun g hg=>?_⟩;obtain⟨e,e1,e2,e3,e4,e5⟩:=h.bN g x hg hx;rw[hn,h.Zd hx g (by omega),e1];omega
theorem dE.bO{x:Nat}(hx:x<n):∀g,g≤tb.length→c x 0≤c x g:=by
  intro g;induction g with
  |zero=>intro _;exact Nat.le_refl _
  | succ g ih=>
    intro hg;obtain⟨e,e1,e2,e3,e4,e5⟩:=h.bN g x (by omega) hx;have:=ih (by omega);rw[e5];split<;>omega
include hv hc
theorem dE.xI{g:Nat}(hg:g<tb.length):Go.Proofs.YtghmeeifjeafmaaGreat.xI (tb.getD g []):=by
  have G:=(lvl hv hc).g 0;have hl:=h.rl g hg;refine⟨fun k hk=>?_,fun i j JI hj he=>?_⟩
  · obtain⟨e,e1,e2,e3,e4,e5⟩:=h.bN g k hg (by omega);rw[e1,hl];omega
  obtain⟨e,e1,e2,e3,e4,e5⟩:=h.bN g i hg (by omega);obtain⟨e',Mh,Mg,Oc,Tk,e5'⟩:=h.bN g j hg (by omega);obtain rfl:e=e':=by omega
  rw[Tk]at e4;have:=G.rc (h.xT g hg) (h.qT j (by omega)) (h.qT i (by omega)) e4;have:=h.inj j i (by omega) (by omega) this;omega
omit hv hc in
theorem dE.cle:∀x,x≤n→c x 0≤n:=by
  have Za:∀x,x<n→c x 0≤n→∀g,g≤tb.length→c x g≤n:=by
    intro x hx h0 g;induction g with
    |zero=>intro _;exact h0
    | succ g ih=>
      intro hg;obtain⟨e,e1,e2,e3,e4,e5⟩:=h.bN g x (by omega) hx;have:=ih (by omega);rw[e5];split<;>omega
  intro x;induction x with
  |zero=>intro _;have:=h.n1;rw[h.c0];exact this
  |succ x ih=>intro hx;rw[h.cs x (by omega)];exact Za x (by omega) (ih (by omega)) _ (Nat.le_refl _)
omit hv hc in
theorem dE.end:c n 0=n:=by
  have h1:=h.cle n (Nat.le_refl _);have h2:=h.n1;obtain⟨m,rfl⟩:∃m,n=m+1:=⟨n-1,by omega⟩;have h3:=h.cn m (by omega);have h4:=h.bO (x:=m) (by omega) tb.length (Nat.le_refl _);rw[h.cs m (by omega)]at h1 ⊢;omega
def Iu(P:Pc)(q:Nat→V)(n:Nat)(y v:Nat)(m:Nat→Int):Prop:=∀z,z<v→∃k:Nat,m z=k∧k<n∧q k=M P 0 (q y) (q z)
theorem dE.min{y x:Nat}(hy:y<n)(hx:x<n){m:Nat→Int}(hm:Iu P q n y (c x 0) m):∀g,g≤tb.length→Iu P q n y (c x g) (LD tb x g (c x 0) m):=by
  have G:=(lvl hv hc).g 0;intro g;induction g with
  |zero=>intro _;exact hm
  | succ g ih=>
    intro hg;have ih:=ih (by omega);obtain⟨e,e1,e2,e3,e4,e5⟩:=h.bN g x (by omega) hx;have hcx:=h.cn x hx;have Mm:=h.bO hx g (by omega);rw[LD,h.Zd hx g (by omega),e1,e5];by_cases he:e=c x g
    · rw[if_pos he,if_pos (by omega)];intro z hz;unfold AX;by_cases hze:z=e
      · subst hze;rw[if_pos (by omega)];obtain⟨k,k1,k2,k3⟩:=ih x (by omega);rw[k1,Int.toNat_natCast];obtain⟨e',Mh,Mg,Oc,Tk,e5'⟩:=h.bN g k (by omega) k2;refine⟨e',Mh,Mg,?_⟩;rw[Tk,k3,e4,G.ac (h.qT y hy) (h.qT x hx) (h.xT g (by omega))]
      rw[if_neg (by omega)];exact ih z (by omega)
    rw[if_neg he,if_neg (by omega)];exact ih
theorem dE.mou{y:Nat}(hy:y<n):∀x,x≤n→Iu P q n y (c x 0) (HV tb y x):=by
  have G:=(lvl hv hc).g 0;intro x;induction x with
  | zero=>
    intro _ z hz;rw[h.c0]at hz;obtain rfl:z=0:=by omega
    refine⟨y,by simp[HV,AX],hy,?_⟩;rw[h.q0,G.r1 (h.qT y hy)]
  | succ x ih=>
    intro hx;rw[HV,h.Tj x (by omega),h.cs x (by omega)];exact h.min hv hc hy (by omega) (ih (by omega)) _ (Nat.le_refl _)
theorem dE.mov{y:Nat}(hy:y<n):pI tb n y:=by
  have G:=(lvl hv hc).g 0;refine⟨fun x hx g hg=>?_,?_⟩
  · unfold S0;rw[h.Tj x (by omega)];have hm:=h.min hv hc hy hx (h.mou hv hc hy x (by omega)) (g+1) (by omega);obtain⟨e,e1,e2,e3,e4,e5⟩:=h.bN g x hg hx;have hcx:=h.cn x hx;have Mm:=h.bO hx (g+1) (by omega);have BW:e<c x (g+1):=by rw[e5];split<;>omega
    rw[e1,Int.toNat_natCast];obtain⟨k,k1,k2,k3⟩:=hm e BW;obtain⟨k',k1',k2',k3'⟩:=hm x (by omega);rw[k1,k1',Int.toNat_natCast];obtain⟨e',Mh,Mg,Oc,Tk,e5'⟩:=h.bN g k' hg k2';rw[Mh];have:k=e':=h.inj k e' k2 Mg (by rw[k3,Tk,k3',e4,G.ac (h.qT y hy) (h.qT x hx) (h.xT g hg)]);rw[this]
  have hm:=h.mou hv hc hy n (Nat.le_refl _);rw[h.end]at hm;have wW:(vec n (HV tb y n)).length=n:=C1;have hvg:∀k,k<n→(vec n (HV tb y n)).getD k 0=HV tb y n k:=fun k hk=>by simp[vec,hk]
  refine⟨fun k hk=>?_,fun i j JI hj he=>?_⟩
  · rw[wW]at hk ⊢;obtain⟨k',k1,k2,k3⟩:=hm k hk;rw[hvg k hk,k1];omega
  rw[wW]at hj;obtain⟨k1,a1,a2,a3⟩:=hm i (by omega);obtain⟨k2,b1,b2,b3⟩:=hm j hj;rw[hvg i (by omega),hvg j hj,a1,b1]at he;obtain rfl:k1=k2:=by omega
  rw[b3]at a3;have:=h.inj j i hj (by omega) (G.lc (h.qT y hy) (h.qT j hj) (h.qT i (by omega)) a3);omega
theorem dE.cay(h4:xs.length≤4)(Hw:n≤128):eL tb:=by
  by_cases h0:tb.length=0
  · exact .inl h0
  refine .inr ⟨n,⟨h.n1,Hw,by omega,by rw[h.len];exact h4,h.rl,fun g x hg hx=>?_⟩,fun g hg=>h.xI hv hc hg,h.num,fun y hy=>h.mov hv hc hy⟩;obtain⟨e,e1,e2,e3,e4,e5⟩:=h.bN g x hg hx;rw[e1];omega
omit hv hc
theorem dE.win{us:List (List Int)}(hu:us.map fl=xs){x:Nat}(hx:x<n){m:Nat→V}(hm:∀z,z<c x 0→m z=q z):∀g,g≤tb.length→∀z,z<c x g→MA P us tb x g (c x 0) m z=q z:=by
  intro g;induction g with
  |zero=>intro _;exact hm
  | succ g ih=>
    intro hg z hz;have ih:=ih (by omega);obtain⟨e,e1,e2,e3,e4,e5⟩:=h.bN g x (by omega) hx;have hcx:=h.cn x hx;have Mm:=h.bO hx g (by omega);rw[MA,h.Zd hx g (by omega),e1];rw[e5]at hz;by_cases he:e=c x g
    · rw[if_pos (by omega)];unfold KJ;by_cases hze:z=e
      · subst hze;rw[if_pos (by omega),ih x (by omega),e4,j7 hu]
      rw[if_neg (by omega)];rw[if_pos he]at hz;exact ih z (by omega)
    rw[if_neg (by omega)];rw[if_neg he]at hz;exact ih z hz
theorem dE.wou{us:List (List Int)}(hu:us.map fl=xs):∀x,x≤n→∀z,z<c x 0→OS P us tb x z=q z:=by
  intro x;induction x with
  | zero=>
    intro _ z hz;rw[h.c0]at hz;obtain rfl:z=0:=by omega
    rw[OS,h.q0]
  | succ x ih=>
    intro hx z hz;rw[OS,h.Tj x (by omega)];rw[h.cs x (by omega)]at hz;exact h.win hu (by omega) (ih (by omega)) _ (Nat.le_refl _) z hz
theorem dE.map{us:List (List Int)}(hu:us.map fl=xs):Hx P us tb:=by
  by_cases h0:tb.length=0
  · exact .inl h0
  refine .inr fun x hx g hg=>?_
  rw[h.rl 0 (by omega)]at hx;unfold PV;rw[h.Tj x (by omega)];have hm:=h.wou hu x (by omega);have h1:=h.win hu hx hm (g+1) (by omega);have h2:=h.win hu hx hm g (by omega);obtain⟨e,e1,e2,e3,e4,e5⟩:=h.bN g x hg hx;have hcx:=h.cn x hx;have Mm:=h.bO hx g (by omega);rw[e1,Int.toNat_natCast,h1 e (by rw[e5];split<;>omega),h2 x (by omega),e4,j7 hu]
end
end Go.Proofs.YtghmeeifjeafmaaGreat
namespace Go.Proofs.YtghmeeifjeafmaaGreat
theorem SH(a m:Int)(hm:2≤m∧m≤1000000000):BG Tryz.prog 150 [.i .i64 a,.i .i64 m] (.i .i64 (a%m)):=by
 have hd:=bC (a:=a) (show 0<m by omega)
 have h3:=Int.emod_nonneg a (show m≠0 by omega)
 have h4:=Int.emod_lt_of_pos a (show 0<m by omega)
 have h5: -m≤a.tmod m∧a.tmod m<m:=by rcases Int.lt_or_le (a.tmod m) 0 with h|h;(have:=hd.1 h;omega);(have:=hd.2 h;omega)
 have h6:(a.tmod m+m).tmod m=a%m:=by
  rw[Int.tmod_eq_emod_of_nonneg (by omega)];rcases Int.lt_or_le (a.tmod m) 0 with h|h
  ·rw[hd.1 h,Int.emod_eq_of_lt (by omega) (by omega)]
  rw[hd.2 h,Int.add_emod_right,Int.emod_eq_of_lt (by omega) (by omega)]
 refine BG.AM A9 Tryz.func150 rfl (by kernel_rfl) Tryz.ntmps150 Tryz.results150 (.i _ _) (fun nx cX=>?_)
 refine sQ fun N hN=>?_;simp-dsimp-implicitDefEqProofs(disch:=omega)only[go_sem];apply hN;refine sQ fun N hN=>?_;simp-dsimp-implicitDefEqProofs(disch:=omega)only[go_sem];apply hN;apply AW.ret;simp-dsimp-implicitDefEqProofs(disch:=omega)only[go_sem];rw[h6]
structure j8(m a r n x y X Y:Int):Prop where
  r0:0<r
  rm:r≤m
  n0:0≤n
  nm:n≤m
  X0:0≤X
  Y0:0≤Y
  sx:(x=X∧y= -Y)∨(x= -X∧y=Y)
  sum:Y*r+X*n=m
  bz:∃u v,u*r+v*n=1
  cx:∃k,x*a-r=k*m
  cy:∃k,y*a-n=k*m
theorem j8.start{m a:Int}(hm:0<m)(ha:0≤a)(Bv:a≤m)(hb:∃u v,u*m+v*a=1):j8 m a m a 0 1 0 1:=
  ⟨hm,by omega,ha,Bv,by omega,by omega,.inr ⟨by omega,rfl⟩,by omega,hb,⟨-1,by omega⟩,⟨0,by omega⟩⟩
theorem j8.ybd{m a r n x y X Y:Int}(h:j8 m a r n x y X Y):Y≤m:=by
  have h1:0≤X*n:=Int.mul_nonneg h.X0 h.n0;have h2:Y*1≤Y*r:=Int.mul_le_mul_of_nonneg_left (by have:=h.r0;omega) h.Y0;have h3:=h.sum;omega
theorem j8.xbd{m a r n x y X Y:Int}(h:j8 m a r n x y X Y)(hn:0<n):X≤m:=by
  have h1:X*1≤X*n:=Int.mul_le_mul_of_nonneg_left (by omega) h.X0;have h2:0≤Y*r:=Int.mul_nonneg h.Y0 (by have:=h.r0;omega);have h3:=h.sum;omega
theorem j8.step{m a r n x y X Y:Int}(h:j8 m a r n x y X Y)(hn:0<n):j8 m a n (r-r/n*n) y (x-r/n*y) Y (X+r/n*Y)∧0≤r/n∧r/n≤m∧0≤r/n*n∧r/n*n≤m∧-m≤r/n*y∧r/n*y≤m:=by
  have hr:=h.r0;obtain⟨q,hq⟩:∃q,r/n=q:=⟨_,rfl⟩;have e1:=Int.emod_add_mul_ediv r n;have e2:=Int.emod_nonneg r (show n≠0 by omega);have e3:=Int.emod_lt_of_pos r hn;rw[hq,Int.mul_comm n q]at e1;have QL:0≤q:=by rw[←hq];exact Int.ediv_nonneg (by omega) (by omega)
  rw[hq];have Yi:q*1≤q*n:=Int.mul_le_mul_of_nonneg_left (by omega) QL;have hqY:0≤q*Y:=Int.mul_nonneg QL h.Y0;have EM:j8 m a n (r-q*n) y (x-q*y) Y (X+q*Y):=by
    refine⟨hn,h.nm,by omega,by have:=h.nm;omega,h.Y0,by have:=h.X0;omega,?_,?_,?_,h.cy,?_⟩
    · rcases h.sx with ⟨h1,h2⟩|⟨h1,h2⟩
      · exact .inr ⟨h2,by rw[h1,h2,Int.mul_neg];omega⟩
      exact .inl ⟨h2,by rw[h1,h2];omega⟩
    · have:=h.sum;rw[Int.add_mul,Int.mul_sub];have e4:q*Y*n=Y*(q*n):=by rw[Int.mul_comm q Y,Int.mul_assoc]
      omega
    · obtain⟨u,v,h1⟩:=h.bz;refine⟨v+u*q,u,?_⟩;rw[Int.add_mul,Int.mul_sub,Int.mul_assoc];omega
    obtain⟨k1,h1⟩:=h.cx;obtain⟨k2,h2⟩:=h.cy;refine⟨k1-q*k2,?_⟩;have e5:q*(y*a-n)=q*(k2*m):=by rw[h2]
    rw[Int.mul_sub,←Int.mul_assoc,←Int.mul_assoc]at e5;rw[Int.sub_mul,Int.sub_mul];omega
  have hY:=EM.ybd;have hX0:=h.X0;have hrm:=h.rm;refine⟨EM,QL,by omega,by omega,by omega,?_,?_⟩
  · rcases h.sx with ⟨_,h2⟩|⟨_,h2⟩
    · rw[h2,Int.mul_neg];omega
    rw[h2];omega
  rcases h.sx with ⟨_,h2⟩|⟨_,h2⟩
  · rw[h2,Int.mul_neg];omega
  rw[h2];omega
theorem j8.fin{m a r x y X Y:Int}(h:j8 m a r 0 x y X Y)(hm:2≤m):r=1∧XP m a (x%m):=by
  have hr:=h.r0;have WD:r=1:=by
    obtain⟨u,v,h1⟩:=h.bz;rcases Int.lt_or_le u 1 with hu|hu
    · have:u*r≤0*r:=Int.mul_le_mul_of_nonneg_right (by omega) (by omega);omega
    have:1*r≤u*r:=Int.mul_le_mul_of_nonneg_right hu (by omega);omega
  subst WD;refine⟨rfl,?_⟩;obtain⟨k,hk⟩:=h.cx;have h1:a*x%m=1:=by
    have:a*x=1+k*m:=by rw[Int.mul_comm];omega
    rw[this,Int.add_mul_emod_self_right,Int.emod_eq_of_lt (by omega) (by omega)]
  have h2:a*(x%m)%m=1:=by rw[Int.mul_emod,Int.emod_emod,←Int.mul_emod];exact h1
  have h3:=Int.emod_nonneg x (show m≠0 by omega);refine⟨?_,Int.emod_lt_of_pos x (by omega),h2⟩;rcases Int.lt_or_le 0 (x%m)with h4|h4
  · omega
  have h5:x%m=0:=by omega
  rw[h5]at h2;simp at h2
theorem Tl(k:IntKind)(n:Int)(b:Bool):NR (.t [.i k n,.b b]):=NR.ts (fun x hx=>by
  simp at hx;rcases hx with rfl|rfl
  · exact .i _ _
  exact .b _)
theorem OU(a p:Int)(hp:J0 p)(WU:1≤a)(Mt:a<p):BG Tryz.prog 124 [.i .i64 a,.i .i64 p] (.t [.i .i64 (LH p a),.b true]):=by
 have hinv:=PX hp WU Mt
 have hb:=D0 hp
 have hbz:∃u v,u*p+v*a=1:=by
  have e:=Int.emod_add_mul_ediv (a*LH p a) p;rw[hinv.2.2]at e;exact⟨-(a*LH p a/p),LH p a,by rw[Int.neg_mul,Int.mul_comm (LH p a) a,Int.mul_comm (a*LH p a/p) p];omega⟩
 refine BG.AM A9 Tryz.func124 rfl (by kernel_rfl) Tryz.ntmps124 Tryz.results124 (Tl _ _ _) (fun nx cX=>?_)
 refine sQ fun N hN=>?_;simp-dsimp-implicitDefEqProofs(disch:=omega)only[go_sem];apply hN;refine sQ fun N hN=>?_;simp-dsimp-implicitDefEqProofs(disch:=omega)only[go_sem];apply hN;refine AW.seq fun N1 BC=>?_;apply AW.block;refine AW.AF (α:=(Int×Int)×(Int×Int)×(Int×Int)) (fun x=>sl 35 [(1,.i .i64 p),(6,.i .i64 x.1.1),(7,.i .i64 x.1.2),(8,.i .i64 x.2.1.1),(9,.i .i64 x.2.1.2)]) (fun _=>BN) (fun x m=>j8 p a x.1.1 x.1.2 x.2.1.1 x.2.1.2 x.2.2.1 x.2.2.2) (fun x=>x.1.2.toNat) (((p,a),(0,1),(0,1))) ?_ ?_ (fun _ _ h=>h) ?_
 ·exact j8.start (by omega) (by omega) (by omega) hbz
 ·simp(disch:=omega) [AO,AQ,sl,AJ,ints,rows,A4,AJ]<;>omega
 skip
 rintro⟨⟨r,n⟩,⟨y,z⟩,⟨Y,Z⟩⟩ m he
 dsimp only at he
 simp-dsimp-implicitDefEqProofs(disch:=omega)only[go_sem];have LV:=he.n0
 have hrm:=he.rm
 have Aq:=he.r0
 have Bw:=he.nm
 have hzb:=he.ybd
 have hZ0:=he.Y0
 refine AW.seq fun N2 BM=>?_;refine sQ fun N hN=>?_;simp-dsimp-implicitDefEqProofs(disch:=omega)only[go_sem];apply hN;refine AW.cond rfl ?_ ?_<;>intro h1
 ·try simp only[cn]at h1
  obtain⟨e1,e2,e3,e4,e5,e6,e7⟩:=he.step (by omega);have hxb:=he.xbd (by omega);have hX0:=he.X0;have hsx:=he.sx;have htd:r.tdiv n=r/n:=Int.tdiv_eq_ediv_of_nonneg (by omega);have xS:r-r/n*n<n:=by
   have q1:=Int.emod_add_mul_ediv r n;have q2:=Int.emod_lt_of_pos r (show 0<n by omega);rw[Int.mul_comm n]at q1;omega
  rw[←htd]at e1 e2 e3 e4 e5 e6 e7 xS;apply AW.skip;apply BM;apply AW.block;refine sQ fun N hN=>?_;simp-dsimp-implicitDefEqProofs(disch:=omega)only[go_sem];apply hN;refine sQ fun N hN=>?_;simp-dsimp-implicitDefEqProofs(disch:=omega)only[go_sem];apply hN;apply rQ;simp-dsimp-implicitDefEqProofs(disch:=omega)only[go_sem];refine⟨((n,r-r.tdiv n*n),(z,y-r.tdiv n*z),(Z,Y+r.tdiv n*Z)),?_,fun _ _ h=>h,?_,?_⟩
  ·simp(disch:=omega) [AO,AQ,sl,AJ,ints,rows,A4,AJ]<;>omega
  ·exact e1
  first|omega|(simp only;omega)
 try simp only[cn]at h1
 apply AW.exit;apply BC;refine sQ fun N hN=>?_;simp-dsimp-implicitDefEqProofs(disch:=omega)only[go_sem];refine AC.pure (.of (SH y p (by omega))) ?_;try simp-dsimp-implicitDefEqProofs(disch:=omega)only[go_sem]
 apply hN;apply AW.ret;simp-dsimp-implicitDefEqProofs(disch:=omega)only[go_sem];have hn:n=0:=by omega
 subst hn
 obtain⟨f1,f2⟩:=he.fin (by omega)
 rw[bD f2 hinv,f1];rfl
end Go.Proofs.YtghmeeifjeafmaaGreat
