import Derived.Test.YteoeedlcpalgbaaDoorZ19
set_option linter.unusedVariables false
set_option linter.unusedSimpArgs false
namespace Go.Proofs.YteoeedlcpalgbaaDoor
open Nat (reduceAdd reduceSub reduceGT reduceEqDiff reduceMul)
def MarkC {α:Type} (f:FuncId) (enc:α→AV) (ok:α→Prop) (B C:Int):Prop:=
  ∀ (nx:Nat) (H:HP) (r:AV) (X:α) (ids:List Nat) (k:Int),Ow H r (enc X) ids→ids.Nodup→ok X→0≤k→k≤C→
    AC Tryd.prog f nx H [r,.i .i64 k] (fun _ H' res=>∃k':Int,res= .i .i64 k'∧k≤k'∧k'≤k+B∧∀i,i∉ids→H' i=H i)
def cut (nx:Nat) (H:HP):HP:=fun i=>if i<nx then H i else none
end Go.Proofs.YteoeedlcpalgbaaDoor
