import Derived.Test.YthncdadmkppclaaGreatDoorZ18
import Derived.Test.YthncdadmkppclaaGreatDoorZ20
set_option linter.unusedVariables false
set_option linter.unusedSimpArgs false
namespace Go.Proofs.YthncdadmkppclaaGreatDoor
open Nat (reduceAdd reduceSub reduceGT reduceEqDiff reduceMul)
theorem Ow.prs_inv {H:HP} {r:AV} {os:List Int} {pw:List (List Int)} {cj:List (List (List Int))} {ids:List Nat} (h:Ow H r (Go.Proofs.YthncdadmkppclaaGreatDoor.prs os pw cj) ids):
    ∃r1 r2 r3 is js ks,r= .g [r1,r2,r3]∧ids=is++(js++ks)∧Ow H r1 (Go.Proofs.YthncdadmkppclaaGreatDoor.ints os) is∧Ow H r2 (rows pw) js∧Ow H r3 (cubes cj) ks:=by
  unfold Go.Proofs.YthncdadmkppclaaGreatDoor.prs at h
  generalize hX:AV.g [Go.Proofs.YthncdadmkppclaaGreatDoor.ints os,rows pw,cubes cj]=X at h
  cases h with
  | leaf _ hf hn=>
    subst hX
    cases hf with|g _ hf=>cases hn with|g _ hn=>exact⟨Go.Proofs.YthncdadmkppclaaGreatDoor.ints os,rows pw,cubes cj,[],[],[],rfl,rfl,.leaf _ (hf 0 _ rfl) (hn 0 _ rfl),.leaf _ (hf 1 _ rfl) (hn 1 _ rfl),.leaf _ (hf 2 _ rfl) (hn 2 _ rfl)⟩
  |nl=>cases hX
  |h id cs ts ids' h1 h2=>cases hX
  |q id cs ts ids' h1 h2=>cases hX
  | g cs ts ids' h2=>
    cases hX
    cases h2 with|cons x0 _ xs _ i0 j0 g1 g2=>cases g2 with|cons x1 _ xs _ i1 j1 g3 g4=>cases g4 with|cons x2 _ xs _ i2 j2 g5 g6=>
      cases g6
      exact⟨x0,x1,x2,i0,i1,i2,rfl,by simp,g1,g3,g5⟩
  |t cs ts ids' h2=>cases hX
theorem Hold.prs {H:HP} {lo hi:Nat} {r:AV} {os:List Int} {pw:List (List Int)} {cj:List (List (List Int))} (h:Hold H lo hi r (Go.Proofs.YthncdadmkppclaaGreatDoor.prs os pw cj)):
    ∃r1 r2 r3,r= .g [r1,r2,r3]∧(one r1=true∧one r2=true∧one r3=true)∧Hold H lo hi (.g [r1,r2,r3]) (Go.Proofs.YthncdadmkppclaaGreatDoor.prs os pw cj):=by
  obtain⟨ids,h1,h2,h3⟩:=h
  obtain⟨r1,r2,r3,is,js,ks,rfl,_,h4,h5,h6⟩:=h1.prs_inv
  exact⟨r1,r2,r3,rfl,⟨one_ow h4,one_ow h5,one_ow h6⟩,ids,h1,h2,h3⟩
end Go.Proofs.YthncdadmkppclaaGreatDoor
