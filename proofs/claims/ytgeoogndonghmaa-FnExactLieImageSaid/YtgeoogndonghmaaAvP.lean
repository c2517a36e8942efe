/-
  Own layer, part P: what simp looks at when it runs a region: the values, never what comes behind.
-/
import Derived.Test.YtgeoogndonghmaaAvO
set_option linter.unusedVariables false
set_option linter.unusedSimpArgs false
namespace Go.Proofs.Ytgeoogndonghmaa
variable {P : Program} {Γ : TEnv}

theorem ex1_some {α : Type} (a : α) (f : α → Prop) : ex1 (some a) f = f a := by simp [ex1]
theorem ex2.mk {α : Type} {p f : α → Prop} (a : α) (h : p a) (k : f a) : ex2 p f := ⟨a, h, k⟩

@[congr] theorem ex1_cg {α : Type} {o o' : Option α} (f : α → Prop) (h : o = o') : ex1 o f = ex1 o' f := by rw [h]
@[congr] theorem ex2_cg {α : Type} {p p' : α → Prop} (f : α → Prop) (h : ∀ a, p a = p' a) : ex2 p f = ex2 p' f := by rw [funext h]
@[congr] theorem arun_cg {ops rest : List Oper} {base i : Nat} {s s' : St} {K : St → Prop} (h : s = s') : arun Γ P ops base rest i s K = arun Γ P ops base rest i s' K := by rw [h]
@[congr] theorem hrun_cg {ops rest : List Oper} {base i : Nat} {t t' : List AV} {H H' : HP} {k : List AV → HP → Prop} (h : t = t') (h2 : H = H') : hrun Γ P ops base rest i t H k = hrun Γ P ops base rest i t' H' k := by rw [h, h2]
@[congr] theorem gop_cg {ops : List Oper} {g : Option (Nat × Bool)} {t t' : List AV} {y n : List AV → Prop} (h : t = t') : gop ops g t y n = gop ops g t' y n := by rw [h]
@[congr] theorem aop_cg {d : Option Nat} {op : Op} {id : Nat} {s s' : St} {K : St → Prop} (h : s = s') : aop Γ P d op id s K = aop Γ P d op id s' K := by rw [h]
@[congr] theorem qop_cg {op : Op} {t t' : List AV} {H : HP} {id : Nat} {k : AV → Option (List AV) → Prop} (h : t = t') : qop Γ P op t H id k = qop Γ P op t' H id k := by rw [h]
@[congr] theorem bop_cg {op : BinOp} {ty : TypeId} {x x' y y' : AV} {k : AV → Prop} (h : x = x') (h2 : y = y') : bop Γ op ty x y k = bop Γ op ty x' y' k := by rw [h, h2]
@[congr] theorem uop_cg {op : UnOp} {x x' : AV} {k : AV → Prop} (h : x = x') : uop op x k = uop op x' k := by rw [h]
@[congr] theorem cop_cg {a b : TypeId} {x x' : AV} {k : AV → Prop} (h : x = x') : cop Γ a b x k = cop Γ a b x' k := by rw [h]
@[congr] theorem lop_cg {H : HP} {ty : TypeId} {x x' : AV} {k : AV → Prop} (h : x = x') : lop Γ H ty x k = lop Γ H ty x' k := by rw [h]
@[congr] theorem rdc_cg {e : TE} {o o' : Nat} {cs cs' : List AV} {k : AV → Prop} (h : o = o') (h2 : cs = cs') : rdc e o cs k = rdc e o' cs' k := by rw [h, h2]
@[congr] theorem fop_cg {ty ty' : TypeId} {f : Nat} {k : Nat → Prop} (h : ty = ty') : fop Γ ty f k = fop Γ ty' f k := by rw [h]
@[congr] theorem padd_cg {x x' : AV} {n n' : Nat} {k : AV → Prop} (h : x = x') (h2 : n = n') : padd x n k = padd x' n' k := by rw [h, h2]
@[congr] theorem iop_cg {ty : TypeId} {x x' y y' : AV} {k : AV → Prop} (h : x = x') (h2 : y = y') : iop Γ ty x y k = iop Γ ty x' y' k := by rw [h, h2]
@[congr] theorem eop_cg {n : Nat} {x x' : AV} {k : AV → Prop} (h : x = x') : eop x n k = eop x' n k := by rw [h]
@[congr] theorem nop_cg {x x' : AV} {k : AV → Prop} (h : x = x') : nop x k = nop x' k := by rw [h]
@[congr] theorem capop_cg {ty : TypeId} {x x' : AV} {k : AV → Prop} (h : x = x') : capop Γ ty x k = capop Γ ty x' k := by rw [h]
@[congr] theorem lenop_cg {ty : TypeId} {x x' : AV} {k : AV → Prop} (h : x = x') : lenop Γ ty x k = lenop Γ ty x' k := by rw [h]
@[congr] theorem sop_cg {ty : TypeId} {x x' : AV} {lo lo' hi hi' : Option AV} {k : AV → Prop} (h : x = x') (h2 : lo = lo') (h3 : hi = hi') : sop Γ ty x lo hi k = sop Γ ty x' lo' hi' k := by rw [h, h2, h3]
@[congr] theorem stop_cg {H : HP} {ty : TypeId} {x x' y y' : AV} {k : AV → HP → Prop} (h : x = x') (h2 : y = y') : stop Γ H ty x y k = stop Γ H ty x' y' k := by rw [h, h2]
@[congr] theorem apst_cg {H : HP} {x x' : AV} {xs xs' : List AV} {id : Nat} {k : AV → HP → Prop} (h : x = x') (h2 : xs = xs') : apst H x xs id k = apst H x' xs' id k := by rw [h, h2]
@[congr] theorem apop_cg {H : HP} {t1 t2 : TypeId} {x x' y y' : AV} {id : Nat} {k : AV → HP → Prop} (h : x = x') (h2 : y = y') : apop Γ H t1 t2 x y id k = apop Γ H t1 t2 x' y' id k := by rw [h, h2]
@[congr] theorem mkop_cg {ty : TypeId} {x x' y y' : AV} {id : Nat} {k : AV → Option (List AV) → Prop} (h : x = x') (h2 : y = y') : mkop Γ ty x y id k = mkop Γ ty x' y' id k := by rw [h, h2]
@[congr] theorem bsop_cg {ty : TypeId} {len : Nat} {ps ps' : List (Nat × AV)} {id : Nat} {k : AV → Option (List AV) → Prop} (h : ps = ps') : bsop Γ ty len ps id k = bsop Γ ty len ps' id k := by rw [h]
@[congr] theorem buop_cg {ty : TypeId} {ps ps' : List (Nat × AV)} {k : AV → Prop} (h : ps = ps') : buop Γ ty ps k = buop Γ ty ps' k := by rw [h]
@[congr] theorem AC_cg {f : FuncId} {nx nx' : Nat} {H H' : HP} {as as' : List AV} {Q : Nat → HP → AV → Prop} (h1 : nx = nx') (h : H = H') (h2 : as = as') : AC P f nx H as Q = AC P f nx' H' as' Q := by rw [h1, h, h2]
@[congr] theorem RC_cg {f : FuncId} {H H' : HP} {as as' : List AV} {r : AV} (h : H = H') (h2 : as = as') : RC P f H as r = RC P f H' as' r := by rw [h, h2]
/-! A region's operations, one by one: what comes behind is not looked at before its turn. (The lemmas on lists are proved so that simp does not take them for rfl: only then it counts an argument as changed, and leaves the others alone.) -/
theorem gs_s {α : Type} {x d : α} {xs : List α} {n : Nat} : (x :: xs).getD (n + 1) d = xs.getD n d := by simp
theorem gs_z {α : Type} {x d : α} {xs : List α} : (x :: xs).getD 0 d = x := by simp
theorem ge_s {α : Type} {x : α} {xs : List α} {n : Nat} : (x :: xs)[n + 1]? = xs[n]? := by simp
theorem ge_z {α : Type} {x : α} {xs : List α} : (x :: xs)[0]? = some x := by simp
theorem ss_s {α : Type} {x y : α} {xs : List α} {n : Nat} : (x :: xs).set (n + 1) y = x :: xs.set n y := by simp
theorem ss_z {α : Type} {x y : α} {xs : List α} : (x :: xs).set 0 y = y :: xs := by simp
def dstOf (ops : List Oper) (j : Nat) : Option Nat := (ops[j]?).bind (·.dst)
theorem dst_z {dst : Option Nat} {op : Op} {ty : TypeId} {pos : String} {after : Array Edge} {g : Option (Nat × Bool)} {ops : List Oper} : dstOf (⟨dst, op, ty, pos, after, g⟩ :: ops) 0 = dst := by simp [dstOf]
theorem dst_s {o : Oper} {ops : List Oper} {j : Nat} : dstOf (o :: ops) (j + 1) = dstOf ops j := by simp [dstOf]
def gopV (v : Option AV) (d : Nat) (w : Bool) (t : List AV) (y n : List AV → Prop) : Prop :=
  match v with
  | some (.b x) => gopB x w (y (t.set d (.b w))) (n (t.set d (.b (!w)))) (.mk _) (.mk _)
  | some (.c (.tuple _)) => n t
  | _ => False
def gopD (o : Option Nat) (w : Bool) (t : List AV) (y n : List AV → Prop) : Prop :=
  match o with
  | some d => gopV t[d]? d w t y n
  | none => False
theorem gD {d : Nat} {w : Bool} {t : List AV} {y n : List AV → Prop} : gopD (some d) w t y n = gopV t[d]? d w t y n := rfl
theorem gV1 {x : Bool} {d : Nat} {w : Bool} {t : List AV} {y n : List AV → Prop} : gopV (some (.b x)) d w t y n = gopB x w (y (t.set d (.b w))) (n (t.set d (.b (!w)))) (.mk _) (.mk _) := rfl
theorem gV2 {vs : Array Value} {d : Nat} {w : Bool} {t : List AV} {y n : List AV → Prop} : gopV (some (.c (.tuple vs))) d w t y n = n t := rfl
@[congr] theorem gopD_cg {o o' : Option Nat} {w : Bool} {t : List AV} {y n : List AV → Prop} (h : o = o') : gopD o w t y n = gopD o' w t y n := by rw [h]
@[congr] theorem gopV_cg {v v' : Option AV} {d : Nat} {w : Bool} {t : List AV} {y n : List AV → Prop} (h : v = v') : gopV v d w t y n = gopV v' d w t y n := by rw [h]
theorem ar_nil {ops : List Oper} {base i : Nat} {s : St} {K : St → Prop} : arun Γ P ops base [] i s K = K s := rfl
theorem ar_one {ops rest : List Oper} {base i : Nat} {s : St} {K : St → Prop} {dst : Option Nat} {op : Op} {ty : TypeId} {pos : String} {after : Array Edge} :
    arun Γ P ops base (⟨dst, op, ty, pos, after, none⟩ :: rest) i s K = aop Γ P dst op (base + i) s (fun s' => arun Γ P ops base rest (i + 1) s' K) := rfl
theorem ar_if {ops rest : List Oper} {base i j : Nat} {w : Bool} {t : List AV} {H : HP} {nx : Nat} {K : St → Prop} {dst : Option Nat} {op : Op} {ty : TypeId} {pos : String} {after : Array Edge} :
    arun Γ P ops base (⟨dst, op, ty, pos, after, some (j, w)⟩ :: rest) i ⟨t, H, nx⟩ K = gopD (dstOf ops j) w t (fun t => aop Γ P dst op (base + i) ⟨t, H, nx⟩ fun s' => arun Γ P ops base rest (i + 1) s' K) (fun t => arun Γ P ops base rest (i + 1) ⟨putA t dst (.c undef), H, nx⟩ K) := by
  simp only [arun, gop, gopD, gopV, dstOf]
  cases (ops[j]?).bind (·.dst) with
  | none => rfl
  | some d => cases t[d]? with
    | none => rfl
    | some v => cases v <;> rfl
theorem hr_nil {ops : List Oper} {base i : Nat} {t : List AV} {H : HP} {k : List AV → HP → Prop} : hrun Γ P ops base [] i t H k = k t H := rfl
theorem hr_one {ops rest : List Oper} {base i : Nat} {t : List AV} {H : HP} {k : List AV → HP → Prop} {dst : Option Nat} {op : Op} {ty : TypeId} {pos : String} {after : Array Edge} :
    hrun Γ P ops base (⟨dst, op, ty, pos, after, none⟩ :: rest) i t H k = qop Γ P op t H (base + i) fun r d => hrun Γ P ops base rest (i + 1) (putA t dst r) (updo H (base + i) d) k := rfl
theorem hr_if {ops rest : List Oper} {base i j : Nat} {w : Bool} {t : List AV} {H : HP} {k : List AV → HP → Prop} {dst : Option Nat} {op : Op} {ty : TypeId} {pos : String} {after : Array Edge} :
    hrun Γ P ops base (⟨dst, op, ty, pos, after, some (j, w)⟩ :: rest) i t H k = gopD (dstOf ops j) w t (fun t => qop Γ P op t H (base + i) fun r d => hrun Γ P ops base rest (i + 1) (putA t dst r) (updo H (base + i) d) k) (fun t => hrun Γ P ops base rest (i + 1) (putA t dst (.c undef)) H k) := by
  simp only [hrun, gop, gopD, gopV, dstOf]
  cases (ops[j]?).bind (·.dst) with
  | none => rfl
  | some d => cases t[d]? with
    | none => rfl
    | some v => cases v <;> rfl

@[congr] theorem resop_cg {s s' : St} {rs : List ResultVar} {k : List AV → Prop} (h : s = s') : resop Γ s rs k = resop Γ s' rs k := by rw [h]

theorem AW.regionL (hG : GOk P Γ) {n : Nat} {ops : List Oper} {s : St} {K : Exit → St → Prop} (h : arun Γ P ops s.nx ops 0 ⟨s.t, s.H, s.nx + ops.length⟩ (K .normal)) : AW P (.region n ops.toArray false) s K :=
  AW.region hG h
theorem AW.drawL (hG : GOk P Γ) (hmx : P.follows .mixedOrders = true) {n : Nat} {ops : List Oper} {s : St} {K : Exit → St → Prop} (m : Nat) (hd : dok ops m = true)
    (h : hrun Γ P ops s.nx (ops.take m) 0 s.t s.H fun t H' => arun Γ P ops s.nx (ops.drop m) m ⟨t, H', s.nx + ops.length⟩ (K .normal)) : AW P (.region n ops.toArray true) s K :=
  AW.draw hG hmx m hd h

/-- THE LOOP RULE with the numbers of blocks left to themselves. -/
theorem AW.loopN {c : Code} {s : St} {K : Exit → St → Prop} {α : Type} (T : α → List AV) (H : α → HP) (I : α → Nat → Prop) (μ : α → Nat) (x0 : α) (h0 : I x0 s.nx) (ht : wks s.t (T x0)) (hH : ∀ id cs, H x0 id = some cs → s.H id = some cs)
    (round : ∀ x m, I x m → AW P c ⟨T x, H x, m⟩ (thn K fun s' => ∃ y, wks s'.t (T y) ∧ (∀ id cs, H y id = some cs → s'.H id = some cs) ∧ I y s'.nx ∧ μ y < μ x)) : AW P (.loop c) s K :=
  AW.loop (α := α × Nat) (fun x => ⟨T x.1, H x.1, x.2⟩) (fun x => I x.1 x.2) (fun x => μ x.1) (x0, s.nx) h0 ⟨ht, hH, Nat.le_refl _⟩
    (fun x hx => (round x.1 x.2 hx).mono (fun e s' h => by
      cases e <;> simp only [thn] at h ⊢
      case normal => obtain ⟨y, h1, h2, h3, h4⟩ := h; exact ⟨(y, s'.nx), ⟨h1, h2, Nat.le_refl _⟩, h3, h4⟩
      all_goals exact h))

end Go.Proofs.Ytgeoogndonghmaa
