import Derived.Test.YtnlfbimjcabgiaaZ07
import Derived.Test.YtnlfbimjcabgiaaZ33
set_option linter.unusedVariables false
set_option linter.unusedSimpArgs false
namespace Go.Proofs.Ytnlfbimjcabgiaa
open Nat (reduceAdd reduceSub reduceGT reduceEqDiff reduceMul)
theorem impl_residue_ok (a m : Int) (hm : 2 ≤ m ∧ m ≤ 1000000000) : ACp Try.prog 108 [.i .i64 a, .i .i64 m] (.i .i64 (a % m)) := by
 have hd := tmod_pos (a := a) (show 0 < m by omega)
 have h3 := Int.emod_nonneg a (show m ≠ 0 by omega)
 have h4 := Int.emod_lt_of_pos a (show 0 < m by omega)
 have h5 : -m ≤ a.tmod m ∧ a.tmod m < m := by rcases Int.lt_or_le (a.tmod m) 0 with h | h; (have := hd.1 h; omega); (have := hd.2 h; omega)
 have h6 : (a.tmod m + m).tmod m = a % m := by
  rw [Int.tmod_eq_emod_of_nonneg (by omega)]
  rcases Int.lt_or_le (a.tmod m) 0 with h | h
  ·rw [hd.1 h, Int.emod_eq_of_lt (by omega) (by omega)]
  ·rw [hd.2 h, Int.add_emod_right, Int.emod_eq_of_lt (by omega) (by omega)]
 refine ACp.intro' envOk Try.func108 rfl (by kernel_rfl) Try.ntmps108 Try.results108 (.i _ _) (fun nx => ?_)
 refine AW.sr envOk (fun N hN => ?_)
 simp -dsimp -implicitDefEqProofs (disch := omega) only [go_sem, undef, reduceAdd, reduceSub, reduceGT, reduceEqDiff, reduceMul, w64]
 refine hN _ ?_
 try clear hN N
 refine AW.sr envOk (fun N hN => ?_)
 simp -dsimp -implicitDefEqProofs (disch := omega) only [go_sem, undef, reduceAdd, reduceSub, reduceGT, reduceEqDiff, reduceMul, w64]
 refine hN _ ?_
 try clear hN N
 refine AW.ret ?_
 simp -dsimp -implicitDefEqProofs (disch := omega) only [go_sem, undef, reduceAdd, reduceSub, reduceGT, reduceEqDiff, reduceMul]
 rw [h6]
structure Euc (m a r n x y X Y : Int) : Prop where
  r0 : 0 < r
  rm : r ≤ m
  n0 : 0 ≤ n
  nm : n ≤ m
  X0 : 0 ≤ X
  Y0 : 0 ≤ Y
  sx : (x = X ∧ y = -Y) ∨ (x = -X ∧ y = Y)
  sum : Y * r + X * n = m
  bz : ∃ u v, u * r + v * n = 1
  cx : ∃ k, x * a - r = k * m
  cy : ∃ k, y * a - n = k * m
theorem Euc.start {m a : Int} (hm : 0 < m) (ha : 0 ≤ a) (ham : a ≤ m) (hb : ∃ u v, u * m + v * a = 1) : Euc m a m a 0 1 0 1 :=
  ⟨hm, by omega, ha, ham, by omega, by omega, .inr ⟨by omega, rfl⟩, by omega, hb, ⟨-1, by omega⟩, ⟨0, by omega⟩⟩
theorem Euc.ybd {m a r n x y X Y : Int} (h : Euc m a r n x y X Y) : Y ≤ m := by
  have h1 : 0 ≤ X * n := Int.mul_nonneg h.X0 h.n0
  have h2 : Y * 1 ≤ Y * r := Int.mul_le_mul_of_nonneg_left (by have := h.r0; omega) h.Y0
  have h3 := h.sum
  omega
theorem Euc.xbd {m a r n x y X Y : Int} (h : Euc m a r n x y X Y) (hn : 0 < n) : X ≤ m := by
  have h1 : X * 1 ≤ X * n := Int.mul_le_mul_of_nonneg_left (by omega) h.X0
  have h2 : 0 ≤ Y * r := Int.mul_nonneg h.Y0 (by have := h.r0; omega)
  have h3 := h.sum
  omega
theorem Euc.step {m a r n x y X Y : Int} (h : Euc m a r n x y X Y) (hn : 0 < n) : Euc m a n (r - r / n * n) y (x - r / n * y) Y (X + r / n * Y) ∧ 0 ≤ r / n ∧ r / n ≤ m ∧ 0 ≤ r / n * n ∧ r / n * n ≤ m ∧ -m ≤ r / n * y ∧ r / n * y ≤ m := by
  have hr := h.r0
  obtain ⟨q, hq⟩ : ∃ q, r / n = q := ⟨_, rfl⟩
  have e1 := Int.emod_add_mul_ediv r n
  have e2 := Int.emod_nonneg r (show n ≠ 0 by omega)
  have e3 := Int.emod_lt_of_pos r hn
  rw [hq, Int.mul_comm n q] at e1
  have hq0 : 0 ≤ q := by rw [← hq]; exact Int.ediv_nonneg (by omega) (by omega)
  rw [hq]
  have hqn : q * 1 ≤ q * n := Int.mul_le_mul_of_nonneg_left (by omega) hq0
  have hqY : 0 ≤ q * Y := Int.mul_nonneg hq0 h.Y0
  have hst : Euc m a n (r - q * n) y (x - q * y) Y (X + q * Y) := by
    refine ⟨hn, h.nm, by omega, by have := h.nm; omega, h.Y0, by have := h.X0; omega, ?_, ?_, ?_, h.cy, ?_⟩
    · rcases h.sx with ⟨h1, h2⟩ | ⟨h1, h2⟩
      · exact .inr ⟨h2, by rw [h1, h2, Int.mul_neg]; omega⟩
      · exact .inl ⟨h2, by rw [h1, h2]; omega⟩
    · have := h.sum
      rw [Int.add_mul, Int.mul_sub]
      have e4 : q * Y * n = Y * (q * n) := by rw [Int.mul_comm q Y, Int.mul_assoc]
      omega
    · obtain ⟨u, v, h1⟩ := h.bz
      refine ⟨v + u * q, u, ?_⟩
      rw [Int.add_mul, Int.mul_sub, Int.mul_assoc]; omega
    · obtain ⟨k1, h1⟩ := h.cx
      obtain ⟨k2, h2⟩ := h.cy
      refine ⟨k1 - q * k2, ?_⟩
      have e5 : q * (y * a - n) = q * (k2 * m) := by rw [h2]
      rw [Int.mul_sub, ← Int.mul_assoc, ← Int.mul_assoc] at e5
      rw [Int.sub_mul, Int.sub_mul]; omega
  have hY := hst.ybd
  have hX0 := h.X0
  have hrm := h.rm
  refine ⟨hst, hq0, by omega, by omega, by omega, ?_, ?_⟩
  · rcases h.sx with ⟨_, h2⟩ | ⟨_, h2⟩
    · rw [h2, Int.mul_neg]; omega
    · rw [h2]; omega
  · rcases h.sx with ⟨_, h2⟩ | ⟨_, h2⟩
    · rw [h2, Int.mul_neg]; omega
    · rw [h2]; omega
theorem Euc.fin {m a r x y X Y : Int} (h : Euc m a r 0 x y X Y) (hm : 2 ≤ m) : r = 1 ∧ isInv m a (x % m) := by
  have hr := h.r0
  have hr1 : r = 1 := by
    obtain ⟨u, v, h1⟩ := h.bz
    rcases Int.lt_or_le u 1 with hu | hu
    · have : u * r ≤ 0 * r := Int.mul_le_mul_of_nonneg_right (by omega) (by omega)
      omega
    · have : 1 * r ≤ u * r := Int.mul_le_mul_of_nonneg_right hu (by omega)
      omega
  subst hr1
  refine ⟨rfl, ?_⟩
  obtain ⟨k, hk⟩ := h.cx
  have h1 : a * x % m = 1 := by
    have : a * x = 1 + k * m := by rw [Int.mul_comm]; omega
    rw [this, Int.add_mul_emod_self_right, Int.emod_eq_of_lt (by omega) (by omega)]
  have h2 : a * (x % m) % m = 1 := by rw [Int.mul_emod, Int.emod_emod, ← Int.mul_emod]; exact h1
  have h3 := Int.emod_nonneg x (show m ≠ 0 by omega)
  refine ⟨?_, Int.emod_lt_of_pos x (by omega), h2⟩
  rcases Int.lt_or_le 0 (x % m) with h4 | h4
  · omega
  · have h5 : x % m = 0 := by omega
    rw [h5] at h2; simp at h2
theorem nr_ib (k : IntKind) (n : Int) (b : Bool) : NR (.t [.i k n, .b b]) := NR.ts (fun x hx => by
  simp at hx
  rcases hx with rfl | rfl
  · exact .i _ _
  · exact .b _)
theorem impl_inverseMod_ok (a p : Int) (hp : pr4 p) (ha1 : 1 ≤ a) (ha2 : a < p) : ACp Try.prog 90 [.i .i64 a, .i .i64 p] (.t [.i .i64 (invP p a), .b true]) := by
 have hinv := invP_ok hp ha1 ha2
 have hb := pr4_bd hp
 have hbz : ∃ u v, u * p + v * a = 1 := by
  have e := Int.emod_add_mul_ediv (a * invP p a) p
  rw [hinv.2.2] at e
  exact ⟨-(a * invP p a / p), invP p a, by rw [Int.neg_mul, Int.mul_comm (invP p a) a, Int.mul_comm (a * invP p a / p) p]; omega⟩
 refine ACp.intro' envOk Try.func90 rfl (by kernel_rfl) Try.ntmps90 Try.results90 (nr_ib _ _ _) (fun nx => ?_)
 refine AW.sr envOk (fun N hN => ?_)
 simp -dsimp -implicitDefEqProofs (disch := omega) only [go_sem, undef, reduceAdd, reduceSub, reduceGT, reduceEqDiff, reduceMul, w64]
 refine hN _ ?_
 try clear hN N
 refine AW.sr envOk (fun N hN => ?_)
 simp -dsimp -implicitDefEqProofs (disch := omega) only [go_sem, undef, reduceAdd, reduceSub, reduceGT, reduceEqDiff, reduceMul, w64]
 refine hN _ ?_
 try clear hN N
 refine AW.seq (fun N1 hN1 => ?_)
 refine AW.block ?_
 refine AW.loopN (α := (Int × Int) × (Int × Int) × (Int × Int)) (fun x => sl 35 [(1, .i .i64 p), (6, .i .i64 x.1.1), (7, .i .i64 x.1.2), (8, .i .i64 x.2.1.1), (9, .i .i64 x.2.1.2)]) (fun _ => noH) (fun x m => Euc p a x.1.1 x.1.2 x.2.1.1 x.2.1.2 x.2.2.1 x.2.2.2) (fun x => x.1.2.toNat) (((p, a), (0, 1), (0, 1))) ?_ ?_ (fun _ _ h => h) ?_
 ·exact Euc.start (by omega) (by omega) (by omega) hbz
 ·simp (disch := omega) [wks, wkA, sl, w64, ints, rows, cubes, w64] <;> omega
 ·skip
  rintro ⟨⟨r, n⟩, ⟨y, z⟩, ⟨Y, Z⟩⟩ m he
  dsimp only at he
  simp -dsimp -implicitDefEqProofs (disch := omega) only [go_sem, undef, reduceAdd, reduceSub, reduceGT, reduceEqDiff, reduceMul]
  have hn0 := he.n0
  have hrm := he.rm
  have hr0 := he.r0
  have hnm := he.nm
  have hzb := he.ybd
  have hZ0 := he.Y0
  refine AW.seq (fun N2 hN2 => ?_)
  refine AW.sr envOk (fun N hN => ?_)
  simp -dsimp -implicitDefEqProofs (disch := omega) only [go_sem, undef, reduceAdd, reduceSub, reduceGT, reduceEqDiff, reduceMul, w64]
  refine hN _ ?_
  try clear hN N
  refine AW.cond rfl (fun h1 => ?_) (fun h1 => ?_)
  ·try simp only [cn] at h1
   obtain ⟨e1, e2, e3, e4, e5, e6, e7⟩ := he.step (by omega)
   have hxb := he.xbd (by omega)
   have hX0 := he.X0
   have hsx := he.sx
   have htd : r.tdiv n = r / n := Int.tdiv_eq_ediv_of_nonneg (by omega)
   have hmod : r - r / n * n < n := by
    have q1 := Int.emod_add_mul_ediv r n
    have q2 := Int.emod_lt_of_pos r (show 0 < n by omega)
    rw [Int.mul_comm n] at q1; omega
   rw [← htd] at e1 e2 e3 e4 e5 e6 e7 hmod
   refine AW.skip ?_
   simp only [thn, blk]
   refine hN2 _ ?_
   try clear hN2 N2
   refine AW.block ?_
   refine AW.sr envOk (fun N hN => ?_)
   simp -dsimp -implicitDefEqProofs (disch := omega) only [go_sem, undef, reduceAdd, reduceSub, reduceGT, reduceEqDiff, reduceMul, w64]
   refine hN _ ?_
   try clear hN N
   refine AW.sr envOk (fun N hN => ?_)
   simp -dsimp -implicitDefEqProofs (disch := omega) only [go_sem, undef, reduceAdd, reduceSub, reduceGT, reduceEqDiff, reduceMul, w64]
   refine hN _ ?_
   try clear hN N
   refine AW.regionL envOk ?_
   simp -dsimp -implicitDefEqProofs (disch := omega) only [go_sem, undef, reduceAdd, reduceSub, reduceGT, reduceEqDiff, reduceMul, w64]
   refine ⟨((n, r - r.tdiv n * n), (z, y - r.tdiv n * z), (Z, Y + r.tdiv n * Z)), ?_, fun _ _ h => h, ?_, ?_⟩
   ·simp (disch := omega) [wks, wkA, sl, w64, ints, rows, cubes, w64] <;> omega
   ·exact e1
   ·first | omega | (simp only; omega)
  ·try simp only [cn] at h1
   refine AW.exit ?_
   simp only [thn, blk, if_true]
   refine hN1 _ ?_
   try clear hN1 N1
   refine AW.sr envOk (fun N hN => ?_)
   simp -dsimp -implicitDefEqProofs (disch := omega) only [go_sem, undef, reduceAdd, reduceSub, reduceGT, reduceEqDiff, reduceMul, w64]
   refine AC.pure (.of (impl_residue_ok y p (by omega))) ?_
   try simp -dsimp -implicitDefEqProofs (disch := omega) only [go_sem, undef, reduceAdd, reduceSub, reduceGT, reduceEqDiff, reduceMul, w64]
   refine hN _ ?_
   try clear hN N
   refine AW.ret ?_
   simp -dsimp -implicitDefEqProofs (disch := omega) only [go_sem, undef, reduceAdd, reduceSub, reduceGT, reduceEqDiff, reduceMul]
   have hn : n = 0 := by omega
   subst hn
   obtain ⟨f1, f2⟩ := he.fin (by omega)
   rw [inv_uniq f2 hinv, f1]; rfl
end Go.Proofs.Ytnlfbimjcabgiaa
namespace Go.Proofs.Ytnlfbimjcabgiaa
theorem Waits.lt {ops : List Oper} (hlt : ∀ j o, ops[j]? = some o → ∀ e ∈ o.after.toList, Region.binds .any e = true → e.on < j) {i j : Nat} (h : Waits ops i j) : i < j := by
  induction h with
  | one o e ho he hb hi => rw [← hi]; exact hlt _ o ho e he hb
  | step a b iha ihb => omega
section
variable {P : Program} {Γ : TEnv}
def apH (Γ : TEnv) (op : Op) (t : List AV) (H : HP) (id : Nat) (k : AV → HP → Prop) : Prop :=
  match op with
  | .call ⟨.builtin .append, args, tys⟩ => match args.toList, tys.toList with
    | [x, y], [t1, t2] => apop Γ H t1 t2 (evo t x) (evo t y) id k
    | _, _ => False
  | _ => False
section
variable {nx0 : Nat} {L0 : LM} {H0 : HP} {w0 : World} {Av : Nat → Prop}
def hfree (ops : List Oper) (m b : Nat) : Bool := ops.zipIdx.all fun (o, i) => !(decide (b < i) && decide (i < m)) || !(hdep o.op || lays o.op)
theorem apH_a {x y : Operand} {t1 t2 : TypeId} {t : List AV} {H : HP} {id : Nat} {k : AV → HP → Prop} : apH Γ (.call ⟨.builtin .append, [x, y].toArray, [t1, t2].toArray⟩) t H id k = apop Γ H t1 t2 (evo t x) (evo t y) id k := rfl
@[congr] theorem apH_cg {op : Op} {t t' : List AV} {H H' : HP} {id : Nat} {k : AV → HP → Prop} (h : t = t') (h2 : H = H') : apH Γ op t H id k = apH Γ op t' H' id k := by rw [h, h2]
attribute [go_sem ↓] apH_a
end
end
end Go.Proofs.Ytnlfbimjcabgiaa
namespace Go.Proofs.Ytnlfbimjcabgiaa
section
variable {P : Program} {Γ : TEnv}
def hrunF (Γ : TEnv) (P : Program) (base : Nat) : List Bool → List Oper → Nat → List AV → (List AV → Prop) → Prop
  | true :: m, o :: rest, i, t, k => qop Γ P o.op t noH (base + i) fun r _ => hrunF Γ P base m rest (i + 1) (putA t o.dst r) k
  | false :: m, _ :: rest, i, t, k => hrunF Γ P base m rest (i + 1) t k
  | [], _, _, t, k => k t
  | _ :: _, [], _, t, k => k t
def arunF (Γ : TEnv) (P : Program) (base : Nat) : List Bool → List Oper → Nat → St → (St → Prop) → Prop
  | true :: m, _ :: rest, i, s, K => arunF Γ P base m rest (i + 1) s K
  | false :: m, o :: rest, i, s, K => aop Γ P o.dst o.op (base + i) s fun s' => arunF Γ P base m rest (i + 1) s' K
  | [], o :: rest, i, s, K => aop Γ P o.dst o.op (base + i) s fun s' => arunF Γ P base [] rest (i + 1) s' K
  | _, [], _, s, K => K s
section
variable {nx0 : Nat} {L0 : LM} {H0 : HP} {w0 : World} {Av : Nat → Prop}
end
@[congr] theorem hrunF_cg {base i : Nat} {m : List Bool} {rest : List Oper} {t t' : List AV} {k : List AV → Prop} (h : t = t') : hrunF Γ P base m rest i t k = hrunF Γ P base m rest i t' k := by rw [h]
@[congr] theorem arunF_cg {base i : Nat} {m : List Bool} {rest : List Oper} {s s' : St} {K : St → Prop} (h : s = s') : arunF Γ P base m rest i s K = arunF Γ P base m rest i s' K := by rw [h]
theorem hrF_t {base i : Nat} {m : List Bool} {rest : List Oper} {t : List AV} {k : List AV → Prop} {dst : Option Nat} {op : Op} {ty : TypeId} {pos : String} {after : Array Edge} {g : Option (Nat × Bool)} :
    hrunF Γ P base (true :: m) (⟨dst, op, ty, pos, after, g⟩ :: rest) i t k = qop Γ P op t noH (base + i) fun r _ => hrunF Γ P base m rest (i + 1) (putA t dst r) k := by rw [hrunF]
theorem hrF_f {base i : Nat} {m : List Bool} {o : Oper} {rest : List Oper} {t : List AV} {k : List AV → Prop} : hrunF Γ P base (false :: m) (o :: rest) i t k = hrunF Γ P base m rest (i + 1) t k := by rw [hrunF]
theorem hrF_n {base i : Nat} {rest : List Oper} {t : List AV} {k : List AV → Prop} : hrunF Γ P base [] rest i t k = k t := by cases rest <;> rw [hrunF]
theorem arF_t {base i : Nat} {m : List Bool} {o : Oper} {rest : List Oper} {s : St} {K : St → Prop} : arunF Γ P base (true :: m) (o :: rest) i s K = arunF Γ P base m rest (i + 1) s K := by rw [arunF]
theorem arF_f {base i : Nat} {m : List Bool} {rest : List Oper} {s : St} {K : St → Prop} {dst : Option Nat} {op : Op} {ty : TypeId} {pos : String} {after : Array Edge} {g : Option (Nat × Bool)} :
    arunF Γ P base (false :: m) (⟨dst, op, ty, pos, after, g⟩ :: rest) i s K = aop Γ P dst op (base + i) s fun s' => arunF Γ P base m rest (i + 1) s' K := by rw [arunF]
theorem arF_n {base i : Nat} {s : St} {K : St → Prop} : arunF Γ P base [] [] i s K = K s := by rw [arunF]
end
attribute [go_sem] hrF_t hrF_f hrF_n arF_t arF_f arF_n
end Go.Proofs.Ytnlfbimjcabgiaa
namespace Go.Proofs.Ytnlfbimjcabgiaa
section
variable {P : Program} {Γ : TEnv}
inductive Tr
  | nil
  | br (j : Nat) (sub next : Tr)
def opAt : List Oper → Nat → (Oper → Prop) → Prop
  | [], _, _ => False
  | o :: _, 0, k => k o
  | _ :: l, n + 1, k => opAt l n k
def trun (Γ : TEnv) (P : Program) (base : Nat) (ops : List Oper) : Tr → St → (St → Prop) → Prop
  | .nil, s, K => K s
  | .br j sub .nil, s, K => opAt ops j fun o => aop Γ P o.dst o.op (base + j) s fun s' => trun Γ P base ops sub s' K
  | .br j sub (.br k a b), s, K => (opAt ops j fun o => aop Γ P o.dst o.op (base + j) s fun s' => trun Γ P base ops sub s' K) ∧ trun Γ P base ops (.br k a b) s K
end
section
variable {P : Program} {Γ : TEnv} {nx0 : Nat} {L0 : LM} {H0 : HP} {w0 : World} {Av : Nat → Prop}
end
section
variable {P : Program} {Γ : TEnv}
@[congr] theorem trun_cg {base : Nat} {ops : List Oper} {t : Tr} {s s' : St} {K : St → Prop} (h : s = s') : trun Γ P base ops t s K = trun Γ P base ops t s' K := by rw [h]
@[congr] theorem opAt_cg {ops : List Oper} {i : Nat} {k : Oper → Prop} : opAt ops i k = opAt ops i k := rfl
theorem tr_n {base : Nat} {ops : List Oper} {s : St} {K : St → Prop} : trun Γ P base ops .nil s K = K s := by rw [trun]
theorem tr_1 {base j : Nat} {ops : List Oper} {sub : Tr} {s : St} {K : St → Prop} : trun Γ P base ops (.br j sub .nil) s K = opAt ops j fun o => aop Γ P o.dst o.op (base + j) s fun s' => trun Γ P base ops sub s' K := by rw [trun]
theorem tr_2 {base j k : Nat} {ops : List Oper} {sub a b : Tr} {s : St} {K : St → Prop} : trun Γ P base ops (.br j sub (.br k a b)) s K = ((opAt ops j fun o => aop Γ P o.dst o.op (base + j) s fun s' => trun Γ P base ops sub s' K) ∧ trun Γ P base ops (.br k a b) s K) := by rw [trun]
theorem at_s {o : Oper} {l : List Oper} {n : Nat} {k : Oper → Prop} : opAt (o :: l) (n + 1) k = opAt l n k := by rw [opAt]
theorem at_0 {dst : Option Nat} {op : Op} {ty : TypeId} {pos : String} {after : Array Edge} {g : Option (Nat × Bool)} {l : List Oper} {id : Nat} {s : St} {K : St → Prop} : opAt (⟨dst, op, ty, pos, after, g⟩ :: l) 0 (fun o => aop Γ P o.dst o.op id s K) = aop Γ P dst op id s K := by rw [opAt]
end
attribute [go_sem ↓] tr_n tr_1 tr_2 at_s at_0
end Go.Proofs.Ytnlfbimjcabgiaa
