import Derived.Test.YtlcddiojeghfgaaGreatDoorZ14
import Derived.Test.YtlcddiojeghfgaaGreatDoorZ17
import Derived.Test.YtlcddiojeghfgaaGreatDoorZ19
import Derived.Test.YtlcddiojeghfgaaGreatDoorZ24
import Derived.Test.YtlcddiojeghfgaaGreatDoorZ40
set_option linter.unusedVariables false
set_option linter.unusedSimpArgs false
namespace Go.Proofs.YtlcddiojeghfgaaGreatDoor
open Nat (reduceAdd reduceSub reduceGT reduceEqDiff reduceMul)
def nwd (e:List Int):List Int:=wdN e e.length
structure okE (e:List Int):Prop where
  n:e.length≤6
  v:∀k,k<e.length→0≤e.getD k 0∧e.getD k 0≤1000
theorem wdN_mem {e:List Int}:∀k,∀x∈wdN e k,0≤x∧x≤k:=by
  intro k
  induction k with
  |zero=>intro x hx;simp[wdN]at hx
  | succ k ih=>
    intro x hx
    rw[wdN]at hx
    rcases List.mem_append.1 hx with hx|hx
    · have:=ih x hx;omega
    · rw[(List.mem_replicate.1 hx).2];omega
theorem okE.len {e:List Int} (h:okE e):(nwd e).length≤6000:=by
  have h1:=wdN_len (fun k hk=>(h.v k hk).2) e.length (Nat.le_refl _)
  have:=h.n
  unfold nwd;omega
theorem okE.bd {e:List Int} (h:okE e):∀k,k<(nwd e).length→-1048576≤(nwd e).getD k 0∧(nwd e).getD k 0≤1048576:=by
  intro k hk
  have h1:=wdN_mem (e:=e) e.length ((nwd e).getD k 0) (by
    rw[List.getD_eq_getElem?_getD,List.getElem?_eq_getElem hk]
    exact List.getElem_mem hk)
  have:=h.n
  omega
theorem presOk.pw {os:List Int} {pw:List (List Int)} {cj:List (List (List Int))} (h:presOk os pw cj) {i:Nat} (hi:i<os.length):okE (pw.getD i []):=by
  have h1:=(h.2.2.2 i hi).1
  have h6:=h.1.1
  refine⟨by rw[h1.1];exact h6,fun k hk=> ?_⟩
  have h2:=(h1.2 k hk).1
  have:=pr4_bd (h.2.1 k (by rw[←h1.1];exact hk))
  omega
theorem presOk.cj {os:List Int} {pw:List (List Int)} {cj:List (List (List Int))} (h:presOk os pw cj) {i:Nat} (hi:i<os.length):(cj.getD i []).length+1+i=os.length∧∀k,k<(cj.getD i []).length→okE ((cj.getD i []).getD k []):=by
  have h0:=h.2.2.2 i hi
  have h6:=h.1.1
  refine⟨h0.2.1,fun d hd=> ?_⟩
  have h1:=h0.2.2 d hd
  refine⟨by rw[h1.1];exact h6,fun k hk=> ?_⟩
  have h2:=(h1.2 k hk).1
  have:=pr4_bd (h.2.1 k (by rw[←h1.1];exact hk))
  omega
def relA (os:List Int) (pw:List (List Int)) (i:Nat):List Int:=List.replicate (os.getD i 0).toNat ((i:Int)+1)++invW (nwd (pw.getD i []))
def relB (cj:List (List (List Int))) (i d:Nat):List Int:=[-(i:Int)-1,((i+1+d:Nat):Int)+1,(i:Int)+1]++invW (nwd ((cj.getD i []).getD d []))
def relsA (os:List Int) (pw:List (List Int)) (k:Nat):List (List Int):=(List.range k).map (relA os pw)
def relsB (cj:List (List (List Int))) (i k:Nat):List (List Int):=(List.range k).map (relB cj i)
def relsC (cj:List (List (List Int))) (n:Nat):Nat→List (List Int)
  |0=>[]
  |k+1=>relsC cj n k++relsB cj k (n-1-k)
def rels (os:List Int) (pw:List (List Int)) (cj:List (List (List Int))):List (List Int):=relsA os pw os.length++relsC cj os.length os.length
theorem relsA_len {os:List Int} {pw:List (List Int)} {k:Nat}:(relsA os pw k).length=k:=by simp[relsA]
theorem relsA_s {os:List Int} {pw:List (List Int)} {k:Nat}:relsA os pw (k+1)=relsA os pw k++[relA os pw k]:=by unfold relsA;rw[List.range_succ,List.map_append];rfl
theorem relsB_len {cj:List (List (List Int))} {i k:Nat}:(relsB cj i k).length=k:=by simp[relsB]
theorem relsB_s {cj:List (List (List Int))} {i k:Nat}:relsB cj i (k+1)=relsB cj i k++[relB cj i k]:=by unfold relsB;rw[List.range_succ,List.map_append];rfl
theorem relsC_len {cj:List (List (List Int))} {n:Nat}:∀k,k≤n→(relsC cj n k).length≤n*k:=by
  intro k
  induction k with
  |zero=>intro _;simp[relsC]
  | succ k ih=>
    intro hk
    have:=ih (by omega)
    rw[relsC,List.length_append,relsB_len,Nat.mul_succ]
    omega
theorem relA_len {os:List Int} {pw:List (List Int)} {cj:List (List (List Int))} (h:presOk os pw cj) {i:Nat} (hi:i<os.length):(relA os pw i).length≤7000:=by
  have h1:=(h.pw hi).len
  have:=pr4_bd (h.2.1 i hi)
  unfold relA
  rw[List.length_append,List.length_replicate,invW_len];omega
theorem relB_len {os:List Int} {pw:List (List Int)} {cj:List (List (List Int))} (h:presOk os pw cj) {i d:Nat} (hi:i<os.length) (hd:d<(cj.getD i []).length):(relB cj i d).length≤7000:=by
  have h1:=((h.cj hi).2 d hd).len
  unfold relB
  rw[List.length_append,invW_len]
  simp only[List.length_cons,List.length_nil]
  omega
theorem relsC_mem {os:List Int} {pw:List (List Int)} {cj:List (List (List Int))} (h:presOk os pw cj):∀k,k≤os.length→∀x∈relsC cj os.length k,x.length≤7000:=by
  intro k
  induction k with
  |zero=>intro _ x hx;simp[relsC]at hx
  | succ k ih=>
    intro hk x hx
    rw[relsC]at hx
    rcases List.mem_append.1 hx with hx|hx
    · exact ih (by omega) x hx
    · unfold relsB at hx
      obtain⟨d,hd,rfl⟩:=List.mem_map.1 hx
      rw[List.mem_range]at hd
      have:=(h.cj (i:=k) (by omega)).1
      exact relB_len h (by omega) (by omega)
theorem rels_rl {os:List Int} {pw:List (List Int)} {cj:List (List (List Int))} (h:presOk os pw cj):rowslen (rels os pw cj):=by
  have h6:=h.1.1
  refine⟨?_,fun x hx=> ?_⟩
  · unfold rels
    have:=relsC_len (cj:=cj) (n:=os.length) os.length (Nat.le_refl _)
    have h2:os.length*os.length≤6*6:=Nat.mul_le_mul h6 h6
    rw[List.length_append,relsA_len];omega
  · unfold rels at hx
    rcases List.mem_append.1 hx with hx|hx
    · unfold relsA at hx
      obtain⟨d,hd,rfl⟩:=List.mem_map.1 hx
      rw[List.mem_range]at hd
      have:=relA_len h hd;omega
    · have:=relsC_mem h _ (Nat.le_refl _) x hx;omega
theorem AW.fzrw {cX:Ctx} {P:Program} {c:Code} {s:St} {K:Exit→St→Prop} (i j n:Nat) (W:List (List Int)) (x:List Int) {xs ds:List AV} (h1:s.H i=some xs) (hxs:xs=W.map ints++[.h j 0 n]) (h2:s.H j=some ds) (hds:ds=x.map (.i .i64)) (hn:n=x.length) (hij:i≠j)
    (hs:AW cX P c ⟨s.t,upd (upd s.H j none) i (some ((W++[x]).map ints)),s.nx⟩ K):AW cX P c s K:=by
  subst hxs hds hn
  refine AW.fzpush i j x.length (W.map ints) (x.map (.i .i64)) h1 h2 (by simp) hij ?_
  rw[List.map_append]at hs
  exact hs
theorem tk_rep {α:Type} {f:α→AV} {n:Nat} {a:α}:List.take n (List.map f (List.replicate n a))=List.map f (List.replicate n a):=List.take_of_length_le (by simp)
theorem one_hq (a b c:Nat):(∀z∈ [AV.h a b c],one z=true)=True:=one_list rfl
end Go.Proofs.YtlcddiojeghfgaaGreatDoor
