import Derived.Test.YthncdadmkppclaaGreatDoorZ11
set_option linter.unusedVariables false
set_option linter.unusedSimpArgs false
namespace Go.Proofs.YthncdadmkppclaaGreatDoor
open Nat (reduceAdd reduceSub reduceGT reduceEqDiff reduceMul)
theorem AW.loop1 {cX:Ctx} {P:Program} {c:Code} {s:St} {K:Exit→St→Prop} (h:AW cX P c s (thn K fun _=>False)):AW cX P (.loop c) s K:=
  AW.loopN (α:=Unit) (fun _=>s.t) (fun _=>s.H) (fun _ m=>m=s.nx) (fun _=>0) () rfl (by
    have:∀t:List AV,wks t t:=by
      intro t
      induction t with
      |nil=>exact trivial
      |cons x xs ih=>exact⟨.inr (.inl rfl),ih⟩
    exact this _) (fun _ _ h=>h) (fun _ m hm=>by
      subst hm
      exact h.mono (fun e s' h=>by cases e<;>simp only[thn]at h ⊢<;>first|exact h.elim|exact h))
def nst (p:Int) (pw:List (List Int)) (i:Nat) (f:Nat→Int):Nat→Int:=fun j=>if j=i then f i%p else f j+f i/p*(pw.getD i []).getD j 0
def nrm (p:Int) (pw:List (List Int)):Nat→(Nat→Int)→Nat→Int
  |0,f=>f
  |i+1,f=>nst p pw i (nrm p pw i f)
structure Tri (p:Int) (pw:List (List Int)):Prop where
  p2:2≤p
  p7:p≤7
  n6:pw.length≤6
  len:∀i,i<pw.length→(pw.getD i []).length=pw.length
  rng:∀i j,i<pw.length→j<pw.length→0≤(pw.getD i []).getD j 0∧(pw.getD i []).getD j 0≤p-1
  tri:∀i j,i<pw.length→j≤i→(pw.getD i []).getD j 0=0
theorem shapeP.tri {p:Int} {pw:List (List Int)} {br:List (List (List Int))} (h:shapeP p pw br):Tri p pw:=by
  obtain⟨h1,h2,h3,h4,h5⟩:=h
  have h6:=pr4_bd h1
  refine⟨h6.1,h6.2,h2,fun i hi=> ?_,fun i j hi hj=> ?_,fun i j hi hj=>(h5 i hi).2.1 j hj⟩
  · have:=(h5 i hi).1.1;omega
  · have h7:=(h5 i hi).1
    exact h7.2 j (by have:=h7.1;omega)
def rsum:Nat→(Nat→Int)→Int
  |0,_=>0
  |n+1,F=>rsum n F+F n
theorem rsum_ext {F G:Nat→Int}:∀{n:Nat},(∀i,i<n→F i=G i)→rsum n F=rsum n G:=by
  intro n
  induction n with
  |zero=>intro _;rfl
  |succ n ih=>intro h;rw[rsum,rsum,ih (fun i hi=>h i (by omega)),h n (by omega)]
theorem rsum_add (F G:Nat→Int):∀n,rsum n (fun i=>F i+G i)=rsum n F+rsum n G:=by
  intro n
  induction n with
  |zero=>rfl
  |succ n ih=>rw[rsum,rsum,rsum,ih];omega
theorem rsum_mul (c:Int) (F:Nat→Int):∀n,rsum n (fun i=>c*F i)=c*rsum n F:=by
  intro n
  induction n with
  |zero=>simp[rsum]
  |succ n ih=>rw[rsum,rsum,ih,Int.mul_add]
theorem rsum_zero:∀n,rsum n (fun _=>0)=0:=by
  intro n
  induction n with
  |zero=>rfl
  |succ n ih=>rw[rsum,ih];rfl
def Cg (p:Int) (pw:List (List Int)) (f g:Nat→Int):Prop:=∃c:Nat→Int,∀j,j<pw.length→f j-g j=p*c j-rsum pw.length (fun i=>c i*(pw.getD i []).getD j 0)
theorem Cg.of {p:Int} {pw:List (List Int)} {f g:Nat→Int} (h:∀j,j<pw.length→f j=g j):Cg p pw f g:=
  ⟨fun _=>0,fun j hj=>by simp[h j hj,rsum_zero]⟩
theorem Cg.refl {p:Int} {pw:List (List Int)} (f:Nat→Int):Cg p pw f f:= .of fun _ _=>rfl
theorem Cg.trans {p:Int} {pw:List (List Int)} {f g h:Nat→Int} (a:Cg p pw f g) (b:Cg p pw g h):Cg p pw f h:=by
  obtain⟨c,hc⟩:=a
  obtain⟨c',hc'⟩:=b
  refine⟨fun i=>c i+c' i,fun j hj=> ?_⟩
  have h1:=hc j hj
  have h2:=hc' j hj
  have h3:rsum pw.length (fun i=>(c i+c' i)*(pw.getD i []).getD j 0)=rsum pw.length (fun i=>c i*(pw.getD i []).getD j 0)+rsum pw.length (fun i=>c' i*(pw.getD i []).getD j 0):=by
    rw[←rsum_add]
    exact rsum_ext (fun i _=>Int.add_mul _ _ _)
  rw[h3,Int.mul_add];omega
theorem Cg.symm {p:Int} {pw:List (List Int)} {f g:Nat→Int} (a:Cg p pw f g):Cg p pw g f:=by
  obtain⟨c,hc⟩:=a
  refine⟨fun i=>(-1)*c i,fun j hj=> ?_⟩
  have h1:=hc j hj
  have h3:rsum pw.length (fun i=>(-1)*c i*(pw.getD i []).getD j 0)=(-1)*rsum pw.length (fun i=>c i*(pw.getD i []).getD j 0):=by
    rw[←rsum_mul]
    exact rsum_ext (fun i _=>Int.mul_assoc _ _ _)
  have h4:p*(-1*c j)= -(p*c j):=by rw[Int.mul_left_comm];omega
  rw[h3,h4];omega
theorem Cg.ext {p:Int} {pw:List (List Int)} {f g f' g':Nat→Int} (a:Cg p pw f g) (h:∀j,j<pw.length→f j=f' j) (h':∀j,j<pw.length→g j=g' j):Cg p pw f' g':=
  (Cg.of (fun j hj=>(h j hj).symm)).trans (a.trans (.of h'))
def Box (p:Int) (n:Nat) (f:Nat→Int):Prop:=∀j,j<n→0≤f j∧f j≤p-1
theorem Cg.eq {p:Int} {pw:List (List Int)} (t:Tri p pw) {f g:Nat→Int} (h:Cg p pw f g) (hf:Box p pw.length f) (hg:Box p pw.length g):∀j,j<pw.length→f j=g j:=by
  obtain⟨c,hc⟩:=h
  have hp:=t.p2
  have key:∀j,j<pw.length→c j=0:=by
    intro j
    induction j using Nat.strongRecOn with
    | _ j ih=>
      intro hj
      have h1:=hc j hj
      have h2:rsum pw.length (fun i=>c i*(pw.getD i []).getD j 0)=0:=by
        rw[rsum_ext (G:=fun _=>0) (fun i hi=> ?_),rsum_zero]
        by_cases hij:i<j
        · rw[ih i hij hi];simp
        · rw[t.tri i j hi (by omega)];simp
      rw[h2]at h1
      have h3:=hf j hj
      have h4:=hg j hj
      apply Classical.byContradiction
      intro hne
      rcases Int.lt_or_gt_of_ne hne with hlt|hgt
      · have:p*c j≤p*(-1):=Int.mul_le_mul_of_nonneg_left (by omega) (by omega)
        omega
      · have:p*1≤p*c j:=Int.mul_le_mul_of_nonneg_left (by omega) (by omega)
        omega
  intro j hj
  have h1:=hc j hj
  rw[key j hj,rsum_ext (G:=fun _=>0) (fun i hi=>by rw[key i hi];simp),rsum_zero]at h1
  omega
def nf (p:Int) (pw:List (List Int)) (f:Nat→Int):List Int:=vec pw.length (nrm p pw pw.length f)
structure El (p:Int) (n:Nat) (a:List Int):Prop where
  len:a.length=n
  rng:∀j,j<n→0≤a.getD j 0∧a.getD j 0≤p-1
theorem isEl.el {p:Int} {n:Nat} {a:List Int} (h:isEl p n a):El p n a:=⟨by have:=h.1;omega,fun j hj=>h.2 j (by have:=h.1;omega)⟩
theorem El.is {p:Int} {n:Nat} {a:List Int} (h:El p n a):isEl p n a:=⟨by rw[h.len],fun j hj=>h.rng j (by rw[←h.len];exact hj)⟩
open Nat (reduceAdd reduceSub reduceGT reduceEqDiff reduceMul)
theorem Vw.ivs {H:HP} {id n:Nat} {f:Nat→Int} (h:H id=some (ivs n f)):Vw H (.h id 0 n) (ints (vec n f)):=by
  unfold Go.Proofs.YthncdadmkppclaaGreatDoor.ints
  rw[vec_len,vec_map]
  exact .h id 0 n _ _ h (by rw[ivs_len];omega) ivs_len (fun k x y hx hy=>by rw[Nat.zero_add,hy]at hx;cases hx;exact .refl _)
def mixL (p:Int) (pw:List (List Int)) (k:Int) (a:List Int) (m:Int) (b:List Int):List Int:=nf p pw (fun j=>k*a.getD j 0+m*b.getD j 0)
def Sml (n:Nat) (k:Int) (a:List Int):Prop:=∀j,j<n→-400000000000000≤k*a.getD j 0∧k*a.getD j 0≤400000000000000
def unitL (n k:Nat):List Int:=vec n (fun j=>if j=k then 1 else 0)
def MvI (H:HP) (r:AV) (n:Nat) (f:Nat→Int):Prop:=(∃id,r= .h id 0 n∧H id=some (ivs n f))∨(n=0∧r= .v 0 [])
theorem MvI.vw {H:HP} {r:AV} {n:Nat} {f:Nat→Int} (h:MvI H r n f):Vw H r (ints (vec n f)):=by
  rcases h with ⟨id,rfl,h⟩|⟨rfl,rfl⟩
  · exact .ivs h
  · exact .refl _
def mulL (p:Int) (pw:List (List Int)) (k:Int) (a:List Int):List Int:=nf p pw (fun j=>k*a.getD j 0)
open Nat (reduceAdd reduceSub reduceGT reduceEqDiff reduceMul)
def brc (a b:List Int) (i r:Nat):Int:=a.getD i 0*b.getD (i+1+r) 0-a.getD (i+1+r) 0*b.getD i 0
def brow (a b:List Int) (bi:List (List Int)) (i q t:Nat):Int:=rsum q (fun r=>brc a b i r*(bi.getD r []).getD t 0)
def bsum (a b:List Int) (br:List (List (List Int))) (k t:Nat):Int:=rsum k (fun i=>brow a b (br.getD i []) i (br.getD i []).length t)
def brkL (p:Int) (pw:List (List Int)) (br:List (List (List Int))) (a b:List Int):List Int:=nf p pw (fun t=>bsum a b br pw.length t)
theorem Sml.box {n:Nat} {k C:Int} {a:List Int} (h:∀j,j<n→-C≤k*a.getD j 0∧k*a.getD j 0≤C) (hC:C≤400000000000000):Sml n k a:=fun j hj=>by have:=h j hj;omega
theorem El.vec {p:Int} {n:Nat} {f:Nat→Int} (h:Box p n f):El p n (vec n f):=⟨vec_len,fun j hj=>by rw[vec_get hj];exact h j hj⟩
end Go.Proofs.YthncdadmkppclaaGreatDoor
