import Derived.Test.YtlcddiojeghfgaaDoorZ18
set_option linter.unusedVariables false
set_option linter.unusedSimpArgs false
namespace Go.Proofs.YtlcddiojeghfgaaDoor
open Nat (reduceAdd reduceSub reduceGT reduceEqDiff reduceMul)
def Flt (n:Nat) (P:Nat→Nat→Prop) (J:Nat→Nat→Nat→Prop) (t:Int×Int×Int×Int):Prop:=
  (∃a b:Nat,t=(1,(a:Int),(b:Int),0)∧a<n∧b<n∧P a b∧∀a' b',b'<n→(a'<a∨(a'=a∧b'<b))→¬P a' b')∨
  ((∀a b,a<n→b<n→¬P a b)∧((∃a b c:Nat,t=(2,(a:Int),(b:Int),(c:Int))∧a<b∧b<c∧c<n∧J a b c∧∀a' b' c',a'<b'→b'<c'→c'<n→(a'<a∨(a'=a∧(b'<b∨(b'=b∧c'<c))))→¬J a' b' c')∨
    (t=(0,0,0,0)∧∀a b c,a<b→b<c→c<n→¬J a b c)))
theorem Flt.uniq {n:Nat} {P:Nat→Nat→Prop} {J:Nat→Nat→Nat→Prop} {t t':Int×Int×Int×Int} (h:Flt n P J t) (h':Flt n P J t'):t=t':=by
  rcases h with ⟨a,b,rfl,ha,hb,hp,hf⟩|⟨hn,h⟩
  · rcases h' with ⟨a',b',rfl,ha',hb',hp',hf'⟩|⟨hn',h'⟩
    · have h1:a=a'∧b=b':=by
        apply Classical.byContradiction
        intro hne
        by_cases hlt:a<a'∨(a=a'∧b<b')
        · exact hf' a b hb hlt hp
        · exact hf a' b' hb' (by omega) hp'
      rw[h1.1,h1.2]
    · exact absurd hp (hn' a b ha hb)
  · rcases h' with ⟨a',b',rfl,ha',hb',hp',hf'⟩|⟨hn',h'⟩
    · exact absurd hp' (hn a' b' ha' hb')
    · rcases h with ⟨a,b,c,rfl,h1,h2,h3,hj,hf⟩|⟨rfl,hz⟩
      · rcases h' with ⟨a',b',c',rfl,h1',h2',h3',hj',hf'⟩|⟨rfl,hz'⟩
        · have h4:a=a'∧b=b'∧c=c':=by
            apply Classical.byContradiction
            intro hne
            by_cases hlt:a<a'∨(a=a'∧(b<b'∨(b=b'∧c<c')))
            · exact hf' a b c h1 h2 h3 hlt hj
            · exact hf a' b' c' h1' h2' h3' (by omega) hj'
          rw[h4.1,h4.2.1,h4.2.2]
        · exact absurd hj (hz' a b c h1 h2 h3)
      · rcases h' with ⟨a',b',c',rfl,h1',h2',h3',hj',hf'⟩|⟨rfl,hz'⟩
        · exact absurd hj' (hz a' b' c' h1' h2' h3')
        · rfl
theorem least {P:Nat→Prop} (h:∃n,P n):∃n,P n∧∀m,m<n→¬P m:=by
  apply Classical.byContradiction
  intro hc
  have:∀n,¬P n:=by
    intro n
    induction n using Nat.strongRecOn with
    |_ n ih=>intro hp;exact hc ⟨n,hp,ih⟩
  obtain⟨n,hn⟩:=h
  exact this n hn
theorem Flt.ex (n:Nat) (P:Nat→Nat→Prop) (J:Nat→Nat→Nat→Prop):∃t,Flt n P J t:=by
  by_cases h:∃a,∃b,a<n∧b<n∧P a b
  · obtain⟨a,ha,hla⟩:=least h
    obtain⟨b,⟨h1,h2,h3⟩,hlb⟩:=least ha
    refine⟨_,.inl ⟨a,b,rfl,h1,h2,h3,fun a' b' hb' hlt hp=> ?_⟩⟩
    rcases hlt with hlt|⟨rfl,hlt⟩
    · exact hla a' hlt ⟨b',by omega,hb',hp⟩
    · exact hlb b' hlt ⟨h1,hb',hp⟩
  · have hn:∀a b,a<n→b<n→¬P a b:=fun a b ha hb hp=>h ⟨a,b,ha,hb,hp⟩
    by_cases h':∃a,∃b,∃c,a<b∧b<c∧c<n∧J a b c
    · obtain⟨a,ha,hla⟩:=least h'
      obtain⟨b,hb,hlb⟩:=least ha
      obtain⟨c,⟨h1,h2,h3,h4⟩,hlc⟩:=least hb
      refine⟨_,.inr ⟨hn,.inl ⟨a,b,c,rfl,h1,h2,h3,h4,fun a' b' c' g1 g2 g3 hlt hj=> ?_⟩⟩⟩
      rcases hlt with hlt|⟨rfl,hlt|⟨rfl,hlt⟩⟩
      · exact hla a' hlt ⟨b',c',g1,g2,g3,hj⟩
      · exact hlb b' hlt ⟨c',g1,g2,g3,hj⟩
      · exact hlc c' hlt ⟨g1,g2,g3,hj⟩
    · exact⟨_,.inr ⟨hn,.inr ⟨rfl,fun a b c h1 h2 h3 hj=>h' ⟨a,b,c,h1,h2,h3,hj⟩⟩⟩⟩
def pf (p:Int) (pw:List (List Int)) (br:List (List (List Int))) (i j:Nat):Prop:=
  mulL p pw p (brkL p pw br (unitL pw.length i) (unitL pw.length j))≠brkL p pw br (pw.getD i []) (unitL pw.length j)
def jsum (p:Int) (pw:List (List Int)) (br:List (List (List Int))) (a b c:List Int):List Int:=
  mixL p pw 1 (mixL p pw 1 (brkL p pw br (brkL p pw br a b) c) 1 (brkL p pw br (brkL p pw br b c) a)) 1 (brkL p pw br (brkL p pw br c a) b)
def jf (p:Int) (pw:List (List Int)) (br:List (List (List Int))) (i j k:Nat):Prop:=¬zeros (jsum p pw br (unitL pw.length i) (unitL pw.length j) (unitL pw.length k))
def isFault (p:Int) (pw:List (List Int)) (br:List (List (List Int))) (t:Int×Int×Int×Int):Prop:=Flt pw.length (pf p pw br) (jf p pw br) t
def i4 (t:Int×Int×Int×Int):AV:= .t [.i .i64 t.1,.i .i64 t.2.1,.i .i64 t.2.2.1,.i .i64 t.2.2.2]
theorem Sml.zero {n:Nat} {k:Int}:Sml n k (vec n (fun _=>0)):=fun j hj=>by rw[vec_get hj];simp
end Go.Proofs.YtlcddiojeghfgaaDoor
