import Derived.Test.YtlcddiojeghfgaaDoorZ36
set_option linter.unusedVariables false
set_option linter.unusedSimpArgs false
set_option linter.unusedSectionVars false
namespace Go.Proofs.YtlcddiojeghfgaaDoor
variable {P:Pc}
theorem Grp.mk' {N:V→Prop} {m:V→V→V} (cl:∀{a b},N a→N b→N (m a b)) (ac:∀{a b c},N a→N b→N c→m (m a b) c=m a (m b c)) (e0:N z0)
    (l1:∀{a},N a→m z0 a=a) (iv:∀{a},N a→∃b,N b∧m b a=z0):Grp N m:=by
  have rv:∀{a b},N a→N b→m b a=z0→m a b=z0:=by
    intro a b ha hb h
    obtain⟨c,hc,h2⟩:=iv hb
    rw[←l1 (cl ha hb),←h2,ac hc hb (cl ha hb),←ac hb ha hb,h,l1 hb]
  refine⟨cl,ac,e0,l1,?_,?_⟩
  · intro a ha
    obtain⟨b,hb,h⟩:=iv ha
    rw[←h,←ac ha hb ha,rv ha hb h,l1 ha]
  · intro a ha
    obtain⟨b,hb,h⟩:=iv ha
    exact⟨b,hb,h,rv ha hb h⟩
def un (j:Nat):V:=fset z0 j 1
structure Cond (P:Pc) (i:Nat):Prop where
  pw:∀j,i<j→j<P.n→rep (M P (i+1)) (P.cj i j) (P.o j).toNat=img P (M P (i+1)) i (P.pw j)
  cj:∀j k,i<j→j<k→k<P.n→M P (i+1) (P.cj i k) (P.cj i j)=M P (i+1) (P.cj i j) (img P (M P (i+1)) i (P.cj j k))
  fx:img P (M P (i+1)) i (P.pw i)=P.pw i
  inn:∀j,i<j→j<P.n→M P (i+1) (P.pw i) (itr (img P (M P (i+1)) i) (P.o i).toNat (un j))=M P (i+1) (un j) (P.pw i)
def Con (P:Pc) (l:Nat):Prop:=∀i,l≤i→i<P.n→Cond P i
theorem Con.mono {l m:Nat} (h:Con P l) (hm:l≤m):Con P m:=fun i h1 h2=>h i (by omega) h2
theorem Grp.sub {N N':V→Prop} {m:V→V→V} (h:Grp N m) (hs:∀{x},N' x→N x) {a b c:V} (ha:N' a) (hb:N' b) (hc:N' c):m (m a b) c=m a (m b c):=h.ac (hs ha) (hs hb) (hs hc)
section
variable {i:Nat} (hv:Val P) (hg:Grp (T P (i+1)) (M P (i+1)))
include hv hg
end
end Go.Proofs.YtlcddiojeghfgaaDoor
