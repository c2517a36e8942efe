import Derived.Test.YtgelbdpnpjjbfaaZ35
set_option linter.unusedVariables false
set_option linter.unusedSimpArgs false
namespace Go.Proofs.Ytgelbdpnpjjbfaa
variable {P : Pc}
def tl (l : Nat) (e : V) : V := fun k => if k < l then 0 else e k
def app (P : Pc) (l : Nat) (e f : V) : V := fun k => if k < l then e k else M P l (tl l e) f k
section
variable {l : Nat} (hg : Grp (T P l) (M P l))
include hg
end
end Go.Proofs.Ytgelbdpnpjjbfaa
