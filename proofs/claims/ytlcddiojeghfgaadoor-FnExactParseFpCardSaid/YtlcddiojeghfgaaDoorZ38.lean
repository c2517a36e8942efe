import Derived.Test.YtlcddiojeghfgaaDoorZ37
set_option linter.unusedVariables false
set_option linter.unusedSimpArgs false
set_option linter.unusedSectionVars false
namespace Go.Proofs.YtlcddiojeghfgaaDoor
variable {P:Pc}
def tl (l:Nat) (e:V):V:=fun k=>if k<l then 0 else e k
section
variable {l:Nat} (hg:Grp (T P l) (M P l))
include hg
end
end Go.Proofs.YtlcddiojeghfgaaDoor
