import Derived.Test.YteoeedlcpalgbaaDoorZ12
import Derived.Test.YteoeedlcpalgbaaDoorZ25
import Derived.Test.YteoeedlcpalgbaaDoorZ26
set_option linter.unusedVariables false
set_option linter.unusedSimpArgs false
namespace Go.Proofs.YteoeedlcpalgbaaDoor
open Nat (reduceAdd reduceSub reduceGT reduceEqDiff reduceMul)
theorem args2 {L:LM} {w:World} {M:Nat→Prop} {x y:AV} {us:Array Value} (h:ArgsR L w M [x,y] us):∃u v,us=#[u,v]∧R L w M x u∧R L w M y v:=by
  obtain⟨h1,h2⟩:=h
  obtain⟨l⟩:=us
  match l,h1 with
  |[u,v],_=>exact⟨u,v,rfl,h2 0 x rfl,h2 1 y rfl⟩
theorem one_ss (x:ByteArray):(∀z∈ [AV.s x],one z=true)=True:=by simp[one]
attribute [go_sem] one_ss
def strs (xs:List ByteArray):AV:= .v xs.length (xs.map .s)
theorem strs_nr (xs:List ByteArray):NR (strs xs):= .v _ _ fun k x hk=>by
  rw[List.getElem?_map]at hk
  obtain⟨y,_,rfl⟩:=Option.map_eq_some_iff.1 hk
  exact .s _
def dg (n:Int):ByteArray:=⟨(Lib.decDigits n.toNat).toArray⟩
end Go.Proofs.YteoeedlcpalgbaaDoor
