import Derived.Test.YtnlfbimjcabgiaaGreatZ36
import Derived.Test.YtnlfbimjcabgiaaGreatZ39
set_option linter.unusedVariables false
set_option linter.unusedSimpArgs false
namespace Go.Proofs.YtnlfbimjcabgiaaGreat
def SpT (P:Pc) (t:Nat→Option V):V→Prop:=Sg (T P 0) (M P 0) t P.n P.n
theorem frN_ext {t t':Nat→Option V} (h:∀d y,t d=some y→t' d=some y):∀k,frN t' k≤frN t k∧∀d,d<k→t d=none→t' d≠none→frN t' k<frN t k:=by
  intro k
  induction k with
  |zero=>exact⟨Nat.le_refl _,fun d hd=>by omega⟩
  | succ k ih=>
    obtain⟨i1,i2⟩:=ih
    cases hk:t k with
    | none=>
      by_cases hk2:t' k=none
      · have e1:frN t (k+1)=frN t k+1:=by rw[frN,hk]
        have e2:frN t' (k+1)=frN t' k+1:=by rw[frN,hk2]
        rw[e1,e2]
        refine⟨by omega,fun d hd h1 h2=> ?_⟩
        rcases Nat.lt_or_ge d k with q|q
        · have:=i2 d q h1 h2;omega
        · obtain rfl:d=k:=by omega
          exact absurd hk2 h2
      · obtain⟨y,hy⟩:∃y,t' k=some y:=by
          cases hq:t' k with
          |none=>exact absurd hq hk2
          |some y=>exact⟨y,rfl⟩
        have e1:frN t (k+1)=frN t k+1:=by rw[frN,hk]
        have e2:frN t' (k+1)=frN t' k:=by rw[frN,hy]
        rw[e1,e2]
        exact⟨by omega,fun d hd h1 h2=>by omega⟩
    | some y=>
      have hy:=h k y hk
      have e1:frN t (k+1)=frN t k:=by rw[frN,hk]
      have e2:frN t' (k+1)=frN t' k:=by rw[frN,hy]
      rw[e1,e2]
      refine⟨i1,fun d hd h1 h2=> ?_⟩
      rcases Nat.lt_or_ge d k with q|q
      · exact i2 d q h1 h2
      · obtain rfl:d=k:=by omega
        rw[hk]at h1;cases h1
section
variable {P:Pc} (hv:Val P) (hc:Con P 0) (hp:∀d,d<P.n→pr4 (P.o d))
include hv hc
theorem sft_mem {t:Nat→Option V} (c:Tbl P.n P.o (T P) (M P 0) t) {x:V} (hx:SpT P t x):(sft (rdI P) t P.n P.n x).1=P.n:=by
  have l:=lvl hv hc
  have rk:∀d y x,d<P.n→t d=some y→T P d x→Sm (T P 0) (M P 0) y x (rdI P d y x)∧T P (d+1) (rdI P d y x):=fun d y x h1 h2 h3=>rdI_rk hv hc d y x h1 (c.tb d y h2).2.1 (c.tb d y h2).2.2 h3
  have hS:=c.sub l (Nat.le_refl _)
  have hxT:T P (P.n-P.n) x:=by rw[Nat.sub_self];exact hS.n hx
  rcases sft_stop (rd:=rdI P) (t:=t) P.n (Nat.le_refl _) x with h|⟨h1,h2,h3,h4⟩
  · exact h
  · have hm:∀d y,t d=some y→SpT P t y:=fun d y hy=>by
      have:=c.down l (Nat.zero_le d) (Nat.le_of_lt (c.tb d y hy).1) (c.mem l hy)
      rwa [Nat.sub_zero]at this
    have hg:=(sft_gen l rk hS hm P.n (Nat.le_refl _) x hxT).1 hx
    have hN:=sft_in l rk P.n (Nat.le_refl _) x hxT
    exact absurd h3 ((c.depth l h2).2 ⟨_,hg,hN,h4⟩)
theorem tbl_spm {t:Nat→Option V} (c:Tbl P.n P.o (T P) (M P 0) t) {d:Nat} {y:V} (hy:t d=some y):SpT P t y:=by
  have l:=lvl hv hc
  have:=c.down l (Nat.zero_le d) (Nat.le_of_lt (c.tb d y hy).1) (c.mem l hy)
  rwa [Nat.sub_zero]at this
theorem spT_sbg {t:Nat→Option V} (c:Tbl P.n P.o (T P) (M P 0) t):Sbg (T P 0) (M P 0) (SpT P t):=c.sub (lvl hv hc) (Nat.le_refl _)
theorem inv_again {t:Nat→Option V} (c:Tbl P.n P.o (T P) (M P 0) t) {us:List V} (hu:∀x∈us,T P 0 x):
    Inv P.n P.o (T P) (M P 0) (rdI P) (fun v=>SpT P t v∨v∈us) t (fun v=>v∈us):=by
  have l:=lvl hv hc
  have hS:=spT_sbg hv hc c
  have dn:∀{d x},d<P.n→Sg (T P 0) (M P 0) t P.n (P.n-(d+1)) x→SpT P t x:=fun {d x} hd hx=>by
    have:=c.down l (Nat.zero_le (d+1)) (by omega) hx
    rwa [Nat.sub_zero]at this
  refine⟨c.tb,hu,fun d e y z h1 h2 h3=> ?_,fun d y h=> ?_,fun d y h A hA q=>q y (.inl (tbl_spm hv hc c h)),fun v h A hA q=>q v (.inr h),fun u h=> ?_⟩
  · obtain⟨w,w1,w2⟩:=c.cm d e y z h1 h2 h3
    have:=dn (c.tb d y h1).1 w1
    exact⟨w,hS.n this,.inl w2,.inl (sft_mem hv hc c this)⟩
  · exact .inl (sft_mem hv hc c (dn (c.tb d y h).1 (c.pw d y h)))
  · rcases h with h|h
    · exact fun A hA q=>Sg.least (l.g 0) hA (fun d y hy=>q y (.inr ⟨d,hy⟩)) P.n u h
    · exact fun A hA q=>q u (.inl h)
include hp
theorem adF_ext:∀(f:Nat) (t:Nat→Option V) (w:List V),tbG P t→(∀x∈w,T P 0 x)→∀d y,t d=some y→adF P f t w d=some y:=by
  intro f
  induction f with
  |zero=>intro t w _ _ d y h;exact h
  | succ f ih=>
    intro t w hG hw d y hy
    rw[adF]
    split
    · exact hy
    · rename_i hne
      cases w with
      |nil=>exact absurd rfl hne
      | cons x q=>
        have hx:=hw x List.mem_cons_self
        obtain⟨g1,g2⟩:=adR_G hv hc hp hG (fun z hz=>hw z (List.mem_cons_of_mem _ hz)) hx
        refine ih _ _ g1 g2 d y ?_
        show(adR P t q (siS P t x)).1 d=some y
        obtain⟨s1,s2,s3⟩:=siS_sp hv hc hG hx
        unfold adR
        split
        · exact hy
        · rename_i hs
          show oset t (siS P t x).1 _ d=some y
          unfold oset
          split
          · rename_i e
            have:=(s3 (by omega)).1
            rw[←e,hy]at this;cases this
          · exact hy
theorem adT_sp {t:Nat→Option V} (hG:tbG P t) (c:Tbl P.n P.o (T P) (M P 0) t) {us:List V} (hu:∀x∈us,T P 0 x):
    tbG P (adT P t us)∧Tbl P.n P.o (T P) (M P 0) (adT P t us)∧(∀x,SpT P (adT P t us) x↔Gen (T P 0) (M P 0) (fun v=>SpT P t v∨v∈us) x)∧(∀d y,t d=some y→adT P t us d=some y)∧(adT P t us≠t→frN (adT P t us) P.n<frN t P.n):=by
  have h1:=adF_G hv hc hp (clM P t us) t us hG hu
  have h2:=(adF_inv hv hc hp _ _ us hG (inv_again hv hc c hu) (Nat.le_refl _)).fin (lvl hv hc) T_top (rdI_rk hv hc)
  have h3:=adF_ext hv hc hp (clM P t us) t us hG hu
  refine⟨h1,h2.1,h2.2,h3,fun hne=> ?_⟩
  have:∃d,adT P t us d≠t d:=Classical.byContradiction fun q=>hne (funext fun d=>Classical.byContradiction fun q2=>q ⟨d,q2⟩)
  obtain⟨d,hd⟩:=this
  have ht:t d=none:=by
    cases hq:t d with
    |none=>rfl
    |some y=>exact absurd ((h3 d y hq).trans hq.symm) hd
  rw[ht]at hd
  have hdn:d<P.n:=by
    cases hq:adT P t us d with
    |none=>exact absurd hq hd
    |some y=>exact(h1 d y hq).1
  exact(frN_ext h3 P.n).2 d hdn ht hd
omit hp in
theorem outR_cn {t:Nat→Option V} (c:Tbl P.n P.o (T P) (M P 0) t):Cnl P (SpT P t) (outR P t 0):=
  ⟨_,dnG_can hv hc (rdR_rk2 hv hc) (lvl hv hc) c (spT_sbg hv hc c),rfl⟩
structure ClI (P:Pc) (us bs:List V) (t:Nat→Option V):Prop where
  G:tbG P t
  c:Tbl P.n P.o (T P) (M P 0) t
  a:∀u∈us,SpT P t u
  b:∀x,SpT P t x→NG P us bs x
theorem ClI.start {us bs:List V} (hu:∀x∈us,T P 0 x) (hb:∀x∈bs,T P 0 x):ClI P us bs (adT P (fun _=>none) us):=by
  obtain⟨c,hs⟩:=tbI_tbl hv hc hp hu
  exact⟨tbI_G hv hc hp hu,c,fun u h=>(hs u).2 (GL.of h),fun x hx=>((hs x).1 hx) _ (NG.sbg hv hc hu hb) (fun u h=>NG.of h)⟩
theorem ClI.next {us bs:List V} {t:Nat→Option V} (h:ClI P us bs t) (hu:∀x∈us,T P 0 x) (hb:∀x∈bs,T P 0 x) {ws:List V} {b:V} (hbb:b∈bs) (hw:∀w∈ws,SpT P t w):
    ClI P us bs (adT P t (ws.map fun a=>cjE P a b))∧(∀x,SpT P t x→SpT P (adT P t (ws.map fun a=>cjE P a b)) x)∧(∀w∈ws,SpT P (adT P t (ws.map fun a=>cjE P a b)) (cjE P w b))∧(adT P t (ws.map fun a=>cjE P a b)=t∨frN (adT P t (ws.map fun a=>cjE P a b)) P.n<frN t P.n)∧∀d y,t d=some y→adT P t (ws.map fun a=>cjE P a b) d=some y:=by
  have hS:=spT_sbg hv hc h.c
  have hT:∀x∈ws.map (fun a=>cjE P a b),T P 0 x:=fun x hx=>by
    obtain⟨a,ha,rfl⟩:=List.mem_map.1 hx
    exact(cjE_T hv hc (hS.n (hw a ha)) (hb b hbb)).1
  obtain⟨g1,g2,g3,g4,g5⟩:=adT_sp hv hc hp h.G h.c hT
  have up:∀x,SpT P t x→SpT P (adT P t (ws.map fun a=>cjE P a b)) x:=fun x hx=>(g3 x).2 (fun A hA q=>q x (.inl hx))
  refine⟨⟨g1,g2,fun u hu2=>up u (h.a u hu2),fun x hx=>(g3 x).1 hx _ (NG.sbg hv hc hu hb) (fun v hv2=> ?_)⟩,up,fun w hw2=>(g3 _).2 (fun A hA q=>q _ (.inr (List.mem_map.2 ⟨w,hw2,rfl⟩))),(Classical.em _).imp id g5,g4⟩
  rcases hv2 with h1|h1
  · exact h.b v h1
  · obtain⟨a,ha,rfl⟩:=List.mem_map.1 h1
    exact NG.cj hbb a (h.b a (hw a ha))
theorem ClI.fin {us bs:List V} {t:Nat→Option V} (h:ClI P us bs t) (hu:∀x∈us,T P 0 x) (hb:∀x∈bs,T P 0 x) (hcl:∀b∈bs,∀a∈outR P t 0,SpT P t (cjE P a b)):outR P t 0=ccL P us bs:=by
  have hS:=spT_sbg hv hc h.c
  have cn:=outR_cn hv hc h.c
  have e:=Cnl.gen hv hc hS cn
  have:SpT P t=NG P us bs:=NG.eq hS h.a (fun b hbb=>CjB.of hv hc hS e (hb b hbb) (hcl b hbb)) h.b
  refine Cnl.uniq hv hc (NG.sbg hv hc hu hb) ?_ (ccL_cn hv hc hp hu hb)
  rw[←this]
  exact cn
end
end Go.Proofs.YtnlfbimjcabgiaaGreat
