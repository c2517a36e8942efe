import Derived.Test.YtlcddiojeghfgaaDoorZ26
import Derived.Test.YtlcddiojeghfgaaDoorZ43
set_option linter.unusedVariables false
set_option linter.unusedSimpArgs false
namespace Go.Proofs.YtlcddiojeghfgaaDoor
open Nat (reduceAdd reduceSub reduceGT reduceEqDiff reduceMul)
def resF (m:(Int×List (List Int))×Int):AV:= .t [fp m.1.1 m.1.2,.i .i64 m.2]
theorem fp_nr (g:Int) (rs:List (List Int)):NR (fp g rs):= .g _ (fun k x hk=>by
  match k,hk with
  |0,hk=>cases hk;exact .i _ _
  |1,hk=>cases hk;exact rows_nr _)
theorem resF_nr (m:(Int×List (List Int))×Int):NR (resF m):= .t _ (fun k x hk=>by
  match k,hk with
  |0,hk=>cases hk;exact fp_nr _ _
  |1,hk=>cases hk;exact .i _ _)
theorem Vw.fp {H:HP} {a:AV} {g:Int} {rs:List (List Int)} (h:Vw H a (rows rs)):Vw H (.g [.i .i64 g,a]) (Go.Proofs.YtlcddiojeghfgaaDoor.fp g rs):=by
  refine .g _ _ rfl (fun k x y hx hy=> ?_)
  match k,hx,hy with
  |0,hx,hy=>cases hx;cases hy;exact .refl _
  |1,hx,hy=>cases hx;cases hy;exact h
theorem Own.fp {a b:Nat} {H:HP} {r:AV} {ids:List Nat} {g:Int} {rs:List (List Int)} (h:Own a b H r (rows rs) ids):∃ids,Own a b H (.g [.i .i64 g,r]) (Go.Proofs.YtlcddiojeghfgaaDoor.fp g rs) ids:=by
  obtain⟨h1,h2,h3⟩:=h
  exact⟨[]++(ids++[]),.g _ _ _ (.cons _ _ _ _ [] _ (.leaf _ (.i _ _) (.i _ _)) (.cons _ _ _ _ _ _ h1 .nil)),by simpa using h2,fun i hi=>h3 i (by simpa using hi)⟩
theorem OutB.keep {a m:Nat} {o:Option Nat} {rs:List AV} {H H':HP} {W:List (List Int)} (h:OutB a m o rs H W) (hk:∀i,a≤i→i<m→H' i=H i) (hd:∀i,m≤i→H' i=none):OutB a m o rs H' W:=by
  obtain⟨⟨ids,h1,h2,h3,h4⟩,h5,_⟩:=h
  exact⟨⟨ids,h1.keep fun i hi=>hk i (h3 i hi).1 (h3 i hi).2,h2,h3,h4⟩,h5,hd⟩
theorem Own.nilF {a b:Nat} {H:HP} {e:Int}:∃ids,Own a b H (.t [.g [.i .i64 0,.nl],.i .i64 e]) (resF ((0,[]),e)) ids:=by
  obtain⟨ids,h⟩:=Own.fp (a:=a) (b:=b) (H:=H) (g:=0) (rs:=[]) (ids:=[]) (r:= .nl) ⟨.nl,by simp,by simp⟩
  exact h.pair
end Go.Proofs.YtlcddiojeghfgaaDoor
