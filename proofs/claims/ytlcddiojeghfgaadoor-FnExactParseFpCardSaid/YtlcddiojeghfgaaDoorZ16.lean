import Derived.Test.YtlcddiojeghfgaaDoorZ15
set_option linter.unusedVariables false
set_option linter.unusedSimpArgs false
namespace Go.Proofs.YtlcddiojeghfgaaDoor
def rsum:Nat→(Nat→Int)→Int
  |0,_=>0
  |n+1,F=>rsum n F+F n
theorem rsum_ext {F G:Nat→Int}:∀{n:Nat},(∀i,i<n→F i=G i)→rsum n F=rsum n G:=by
  intro n
  induction n with
  |zero=>intro _;rfl
  |succ n ih=>intro h;rw[rsum,rsum,ih (fun i hi=>h i (by omega)),h n (by omega)]
theorem rsum_add (F G:Nat→Int):∀n,rsum n (fun i=>F i+G i)=rsum n F+rsum n G:=by
  intro n
  induction n with
  |zero=>rfl
  |succ n ih=>rw[rsum,rsum,rsum,ih];omega
theorem rsum_mul (c:Int) (F:Nat→Int):∀n,rsum n (fun i=>c*F i)=c*rsum n F:=by
  intro n
  induction n with
  |zero=>simp[rsum]
  |succ n ih=>rw[rsum,rsum,ih,Int.mul_add]
theorem rsum_zero:∀n,rsum n (fun _=>0)=0:=by
  intro n
  induction n with
  |zero=>rfl
  |succ n ih=>rw[rsum,ih];rfl
def Cg (p:Int) (pw:List (List Int)) (f g:Nat→Int):Prop:=∃c:Nat→Int,∀j,j<pw.length→f j-g j=p*c j-rsum pw.length (fun i=>c i*(pw.getD i []).getD j 0)
theorem Cg.of {p:Int} {pw:List (List Int)} {f g:Nat→Int} (h:∀j,j<pw.length→f j=g j):Cg p pw f g:=
  ⟨fun _=>0,fun j hj=>by simp[h j hj,rsum_zero]⟩
theorem Cg.refl {p:Int} {pw:List (List Int)} (f:Nat→Int):Cg p pw f f:= .of fun _ _=>rfl
theorem Cg.trans {p:Int} {pw:List (List Int)} {f g h:Nat→Int} (a:Cg p pw f g) (b:Cg p pw g h):Cg p pw f h:=by
  obtain⟨c,hc⟩:=a
  obtain⟨c',hc'⟩:=b
  refine⟨fun i=>c i+c' i,fun j hj=> ?_⟩
  have h1:=hc j hj
  have h2:=hc' j hj
  have h3:rsum pw.length (fun i=>(c i+c' i)*(pw.getD i []).getD j 0)=rsum pw.length (fun i=>c i*(pw.getD i []).getD j 0)+rsum pw.length (fun i=>c' i*(pw.getD i []).getD j 0):=by
    rw[←rsum_add]
    exact rsum_ext (fun i _=>Int.add_mul _ _ _)
  rw[h3,Int.mul_add];omega
theorem Cg.symm {p:Int} {pw:List (List Int)} {f g:Nat→Int} (a:Cg p pw f g):Cg p pw g f:=by
  obtain⟨c,hc⟩:=a
  refine⟨fun i=>(-1)*c i,fun j hj=> ?_⟩
  have h1:=hc j hj
  have h3:rsum pw.length (fun i=>(-1)*c i*(pw.getD i []).getD j 0)=(-1)*rsum pw.length (fun i=>c i*(pw.getD i []).getD j 0):=by
    rw[←rsum_mul]
    exact rsum_ext (fun i _=>Int.mul_assoc _ _ _)
  have h4:p*(-1*c j)= -(p*c j):=by rw[Int.mul_left_comm];omega
  rw[h3,h4];omega
theorem Cg.ext {p:Int} {pw:List (List Int)} {f g f' g':Nat→Int} (a:Cg p pw f g) (h:∀j,j<pw.length→f j=f' j) (h':∀j,j<pw.length→g j=g' j):Cg p pw f' g':=
  (Cg.of (fun j hj=>(h j hj).symm)).trans (a.trans (.of h'))
def Box (p:Int) (n:Nat) (f:Nat→Int):Prop:=∀j,j<n→0≤f j∧f j≤p-1
def nf (p:Int) (pw:List (List Int)) (f:Nat→Int):List Int:=vec pw.length (nrm p pw pw.length f)
structure El (p:Int) (n:Nat) (a:List Int):Prop where
  len:a.length=n
  rng:∀j,j<n→0≤a.getD j 0∧a.getD j 0≤p-1
theorem isEl.el {p:Int} {n:Nat} {a:List Int} (h:isEl p n a):El p n a:=⟨by have:=h.1;omega,fun j hj=>h.2 j (by have:=h.1;omega)⟩
theorem El.is {p:Int} {n:Nat} {a:List Int} (h:El p n a):isEl p n a:=⟨by rw[h.len],fun j hj=>h.rng j (by rw[←h.len];exact hj)⟩
end Go.Proofs.YtlcddiojeghfgaaDoor
