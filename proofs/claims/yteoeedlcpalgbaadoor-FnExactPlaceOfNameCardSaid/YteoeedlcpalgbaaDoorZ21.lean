import Derived.Test.YteoeedlcpalgbaaDoorZ20
set_option linter.unusedVariables false
set_option linter.unusedSimpArgs false
namespace Go.Proofs.YteoeedlcpalgbaaDoor
open Nat (reduceAdd reduceSub reduceGT reduceEqDiff reduceMul)
def Hold (H:HP) (lo hi:Nat) (r X:AV):Prop:=∃ids,Own lo hi H r X ids
theorem Hold.keep {H H':HP} {lo hi:Nat} {r X:AV} (h:Hold H lo hi r X) (hk:∀i,lo≤i→i<hi→H' i=H i):Hold H' lo hi r X:=by
  obtain⟨ids,h⟩:=h
  exact⟨ids,h.keep hk (Nat.le_refl _) (Nat.le_refl _)⟩
theorem Hold.vw {H:HP} {lo hi:Nat} {r X:AV} (h:Hold H lo hi r X):Vw H r X:=by obtain⟨ids,h⟩:=h;exact h.1.vw
theorem AC.hold {P:Program} {f:FuncId} {nx:Nat} {H:HP} {xs ts:List AV} {X:AV} {K:Nat→HP→AV→Prop} (h:ACo P f ts X) (hv:Vws H xs ts)
    (hk:∀nx' H' r,nx≤nx'→(∀i,i<nx→H' i=H i)→Hold H' nx nx' r X→K nx' H' r):AC P f nx H xs K:=
  AC.own h hv (fun nx' H' r ids h1 h2 h3=>hk nx' H' r h1 h2 ⟨ids,h3⟩)
def MarkH {α:Type} (f:FuncId) (enc:α→AV) (ok:α→Prop) (B C:Int):Prop:=
  ∀ (nx:Nat) (H:HP) (r:AV) (X:α) (lo hi:Nat) (k:Int),Hold H lo hi r (enc X)→hi≤nx→ok X→0≤k→k≤C→
    AC Tryd.prog f nx H [r,.i .i64 k] (fun _ H' res=>∃k':Int,res= .i .i64 k'∧k≤k'∧k'≤k+B∧∀i,(i<lo∨hi≤i)→H' i=H i)
theorem MarkC.h {α:Type} {f:FuncId} {enc:α→AV} {ok:α→Prop} {B C:Int} (h:MarkC f enc ok B C):MarkH f enc ok B C:=by
  intro nx H r X lo hi k ⟨ids,h1,h2,h3⟩ _ hok h0 h5
  refine(h nx H r X ids k h1 h2 hok h0 h5).mono ?_
  rintro _ H' res ⟨k',g1,g2,g3,g4⟩
  exact⟨k',g1,g2,g3,fun i hi=>g4 i (fun hm=>by have:=h3 i hm;omega)⟩
end Go.Proofs.YteoeedlcpalgbaaDoor
