import Derived.Test.YteoeedlcpalgbaaDoorZ21
set_option linter.unusedVariables false
set_option linter.unusedSimpArgs false
namespace Go.Proofs.YteoeedlcpalgbaaDoor
open Nat (reduceAdd reduceSub reduceGT reduceEqDiff reduceMul)
def Hold (H:HP) (lo hi:Nat) (r X:AV):Prop:=∃ids,Own lo hi H r X ids
theorem Hold.keep {H H':HP} {lo hi:Nat} {r X:AV} (h:Hold H lo hi r X) (hk:∀i,lo≤i→i<hi→H' i=H i):Hold H' lo hi r X:=by
  obtain⟨ids,h⟩:=h
  exact⟨ids,h.keep hk (Nat.le_refl _) (Nat.le_refl _)⟩
theorem Hold.vw {H:HP} {lo hi:Nat} {r X:AV} (h:Hold H lo hi r X):Vw H r X:=by obtain⟨ids,h⟩:=h;exact h.1.vw
theorem AC.hold {P:Program} {f:FuncId} {nx:Nat} {H:HP} {xs ts:List AV} {X:AV} {K:Nat→HP→AV→Prop} (h:ACo P f ts X) (hv:Vws H xs ts)
    (hk:∀nx' H' r,nx≤nx'→(∀i,i<nx→H' i=H i)→Hold H' nx nx' r X→K nx' H' r):AC P f nx H xs K:=
  AC.own h hv (fun nx' H' r ids h1 h2 h3=>hk nx' H' r h1 h2 ⟨ids,h3⟩)
def MarkH {α:Type} (f:FuncId) (enc:α→AV) (ok:α→Prop) (B C:Int):Prop:=
  ∀ (nx:Nat) (H:HP) (r:AV) (X:α) (lo hi:Nat) (k:Int),Hold H lo hi r (enc X)→hi≤nx→ok X→0≤k→k≤C→
    AC Tryd.prog f nx H [r,.i .i64 k] (fun _ H' res=>∃k':Int,res= .i .i64 k'∧k≤k'∧k'≤k+B∧∀i,(i<lo∨hi≤i)→H' i=H i)
theorem MarkC.h {α:Type} {f:FuncId} {enc:α→AV} {ok:α→Prop} {B C:Int} (h:MarkC f enc ok B C):MarkH f enc ok B C:=by
  intro nx H r X lo hi k ⟨ids,h1,h2,h3⟩ _ hok h0 h5
  refine(h nx H r X ids k h1 h2 hok h0 h5).mono ?_
  rintro _ H' res ⟨k',g1,g2,g3,g4⟩
  exact⟨k',g1,g2,g3,fun i hi=>g4 i (fun hm=>by have:=h3 i hm;omega)⟩
def mks (k:Int) (n:Nat):List Int:=vec n (fun j=>k+j)
theorem mks_len {k:Int} {n:Nat}:(mks k n).length=n:=vec_len
theorem markS_g {a:List Int} (hok:a.length≤1048576) {nx:Nat} {H:HP} {r:AV} {lo hi:Nat} {k:Int} (h:Hold H lo hi r (ints a)) (h0:0≤k) (h1:k≤1000000000000000000):
    AC Tryd.prog 20 nx H [r,.i .i64 k] (fun _ H' res=>res= .i .i64 (k+a.length)∧Hold H' lo hi r (ints (mks k a.length))∧∀i,(i<lo∨hi≤i)→H' i=H i):=by
  obtain⟨ids,g1,g2,g3⟩:=h
  rcases g1.ints_inv with ⟨rfl,rfl|rfl⟩|⟨id,rfl,hid,hH⟩
  · exact(laws_markInt64S_nl k nx H).mono (fun _ _ _ ⟨h1,h2⟩=>by subst h1;subst h2;exact⟨by simp,⟨[],.nl,by simp,by simp⟩,fun _ _=>rfl⟩)
  · exact(laws_markInt64S_v0 k nx H).mono (fun _ _ _ ⟨h1,h2⟩=>by subst h1;subst h2;exact⟨by simp,⟨[],.leaf _ .v0 (.v _ _ (by simp)),by simp,by simp⟩,fun _ _=>rfl⟩)
  · have hid':=g3 id hid
    refine(laws_markInt64S_h id a.length _ k nx H hH hok h0 (by omega)).mono (fun _ _ _ ⟨h1,h2⟩=> ?_)
    subst h1;subst h2
    exact⟨rfl,⟨_,Own.ints (by rw[upd_same,mks,vec_map]) mks_len.symm hid'.1 hid'.2⟩,fun i hi=>upd_ne _ _ (by omega)⟩
theorem held_g {k:Int} {n:Nat} (hn:n≤1048576) (h0:0≤k) (h1:k≤1000000000000000000):ACp Tryd.prog 21 [ints (mks k n),.i .i64 k] (.i .i64 (k+n)):=by
  have:=laws_heldInt64S_ok (mks k n) k (by rw[mks_len];exact hn) h0 h1 (fun j hj=>by rw[mks_len]at hj;rw[mks,vec_get hj])
  rwa [mks_len]at this
end Go.Proofs.YteoeedlcpalgbaaDoor
