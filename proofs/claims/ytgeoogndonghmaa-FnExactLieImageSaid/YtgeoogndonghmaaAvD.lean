/-
  Own layer, part D: the operations that only yield a value, or lay a new block: what each does to abstract values, and that it does so.
-/
import Derived.Test.YtgeoogndonghmaaAvC
set_option linter.unusedVariables false
set_option linter.unusedSimpArgs false
namespace Go.Proofs.Ytgeoogndonghmaa

abbrev TEnv := TypeId → Option TE
def GOk (P : Program) (Γ : TEnv) : Prop := ∀ ty x, Γ ty = some x → TOk P ty x

/-- One cell's worth. -/
def one : AV → Bool
  | .i _ _ | .b _ | .s _ | .nl | .v _ _ | .p _ _ | .h _ _ _ | .q _ _ => true
  | .c (.agg _) | .c (.tuple _) => false
  | .c _ => true
  | .j | .g _ | .t _ | .f _ _ => false

def cellsA : AV → List AV
  | .g cs => cs
  | x => [x]
def okA : AV → Bool
  | .g cs => cs.all one
  | x => one x

theorem one_cells {L : LM} {w : World} {M : Nat → Prop} {x : AV} {u : Value} (h : R L w M x u) (ho : one x = true) : u.cells = #[u] ∧ u.oneCell' = true := by
  cases h <;> simp [one] at ho <;> try exact ⟨rfl, rfl⟩
  cases u <;> simp at ho <;> exact ⟨rfl, rfl⟩

theorem okA_cells {L : LM} {w : World} {M : Nat → Prop} {x : AV} {u : Value} (h : R L w M x u) (ho : okA x = true) :
    u.cells.size = (cellsA x).length ∧ ∀ (k : Nat) (y : AV), (cellsA x)[k]? = some y → ∃ c, u.cells[k]? = some c ∧ R L w M y c ∧ c.oneCell' = true := by
  by_cases hx : ∃ cs, x = .g cs
  · obtain ⟨cs, rfl⟩ := hx
    cases h with
    | g _ us hs hr =>
      refine ⟨hs, ?_⟩
      intro k y hk
      have hk' : k < us.size := by rw [hs]; exact (List.getElem?_eq_some_iff.1 hk).1
      have h1 := hr k y hk
      refine ⟨us[k], by simp [Value.cells, hk'], by simpa [hk'] using h1, ?_⟩
      simp only [okA, List.all_eq_true] at ho
      exact (one_cells (by simpa [hk'] using h1) (ho y (List.mem_of_getElem? hk))).2
  · have h1 : cellsA x = [x] := by cases x <;> first | rfl | exact absurd ⟨_, rfl⟩ hx
    have h2 : okA x = one x := by cases x <;> first | rfl | exact absurd ⟨_, rfl⟩ hx
    rw [h2] at ho
    obtain ⟨h3, h4⟩ := one_cells h ho
    rw [h1, h3]
    refine ⟨rfl, ?_⟩
    intro k y hk
    match k, hk with
    | 0, hk => simp at hk; subst hk; exact ⟨u, rfl, h, h4⟩
    | k + 1, hk => simp at hk

def bop (Γ : TEnv) (op : BinOp) (ty : TypeId) (x y : AV) (k : AV → Prop) : Prop :=
  match x, y with
  | .i ka a, .i kb b => ka = kb ∧ match op with
    | .add => k (.i ka (ka.wrap (a + b)))
    | .sub => k (.i ka (ka.wrap (a - b)))
    | .mul => k (.i ka (ka.wrap (a * b)))
    | .quo => b ≠ 0 ∧ k (.i ka (ka.wrap (a.tdiv b)))
    | .rem => b ≠ 0 ∧ k (.i ka (a.tmod b))
    | .eql => k (.b (a == b))
    | .neq => k (.b (a != b))
    | .lss => k (.b (decide (a < b)))
    | .leq => k (.b (decide (a ≤ b)))
    | .gtr => k (.b (decide (a > b)))
    | .geq => k (.b (decide (a ≥ b)))
    | .shl => 0 ≤ b ∧ k (.i ka (ka.wrap (a * 2 ^ (min b.toNat ka.bits))))
    | .shr => 0 ≤ b ∧ k (.i ka (a.fdiv (2 ^ (min b.toNat ka.bits))))
    | .and => k (.i ka (ka.wrap (BitVec.ofInt ka.bits a &&& BitVec.ofInt ka.bits b).toNat))
    | _ => False
  | .s a, .s b => match op with
    | .eql => k (.b (a.toList == b.toList))
    | .neq => k (.b (!(a.toList == b.toList)))
    | .add => (a.size + b.size : Int) ≤ 9223372036854775807 ∧ k (.s (a ++ b))
    | _ => False
  | .b a, .b b => (∃ e, Γ ty = some e ∧ e.d = .bool) ∧ match op with
    | .eql => k (.b (a == b))
    | .neq => k (.b (!(a == b)))
    | _ => False
  | .nl, .nl => (∃ e el, Γ ty = some e ∧ e.d = .slice el) ∧ match op with | .eql => k (.b true) | .neq => k (.b false) | _ => False
  | .h _ _ _, .nl => (∃ e el, Γ ty = some e ∧ e.d = .slice el) ∧ match op with | .eql => k (.b false) | .neq => k (.b true) | _ => False
  | .v _ cs, .nl => cs ≠ [] ∧ (∃ e el, Γ ty = some e ∧ e.d = .slice el) ∧ match op with | .eql => k (.b false) | .neq => k (.b true) | _ => False
  | _, _ => False

def uop (op : UnOp) (x : AV) (k : AV → Prop) : Prop :=
  match op, x with
  | .neg, .i ka a => k (.i ka (ka.wrap (0 - a)))
  | .not, .b x => k (.b (!x))
  | _, _ => False

def cop (Γ : TEnv) (src dst : TypeId) (x : AV) (k : AV → Prop) : Prop :=
  match x, Γ src, Γ dst with
  | .i _ n, some _, some e => match e.d with | .int kd => k (.i kd (kd.wrap n)) | _ => False
  | _, _, _ => False

def rdc (e : TE) (o : Nat) (cs : List AV) (k : AV → Prop) : Prop :=
  if e.agg = true then o + e.size ≤ cs.length ∧ k (.g ((cs.drop o).take e.size)) else o < cs.length ∧ k (cs.getD o .j)

def lop (Γ : TEnv) (H : HP) (ty : TypeId) (x : AV) (k : AV → Prop) : Prop :=
  match Γ ty, x with
  | some e, .p o cs => rdc e o cs k
  | some e, .q id o => ex1 (H id) fun cs => rdc e o cs k
  | _, _ => False

def fop (Γ : TEnv) (ty : TypeId) (f : Nat) (k : Nat → Prop) : Prop :=
  match Γ ty with
  | some e => match e.d with
    | .struct fs => match fs[f]? with
      | some (ft, off) => match Γ ft with
        | some fe => fe.size ≠ 0 ∧ k off
        | none => False
      | none => False
    | _ => False
  | none => False

def iop (Γ : TEnv) (ty : TypeId) (x i : AV) (k : AV → Prop) : Prop :=
  match Γ ty with
  | some e => match e.d with
    | .slice el => match Γ el with
      | some ee => match x, i with
        | .v n cs, .i _ a => 0 ≤ a ∧ a < n ∧ k (.p (a.toNat * ee.size) cs)
        | .h id o n, .i _ a => 0 ≤ a ∧ a < n ∧ k (.q id (o + a.toNat * ee.size))
        | _, _ => False
      | none => False
    | _ => False
  | none => False

def eop (x : AV) (n : Nat) (k : AV → Prop) : Prop :=
  match x with
  | .t vs => match vs[n]? with | some y => k y | none => False
  | _ => False

def nop (x : AV) (k : AV → Prop) : Prop :=
  match x with
  | .p _ _ | .q _ _ => k x
  | _ => False

def lenop (Γ : TEnv) (ty : TypeId) (x : AV) (k : AV → Prop) : Prop :=
  match Γ ty with
  | some e => match e.d, x with
    | .slice _, .v n _ => k (.i .i64 n)
    | .slice _, .h _ _ n => k (.i .i64 n)
    | .slice _, .nl => k (.i .i64 0)
    | .str, .s x => k (.i .i64 x.size)
    | _, _ => False
  | none => False

/-- The capacity: known of a nil slice alone. -/
def capop (Γ : TEnv) (ty : TypeId) (x : AV) (k : AV → Prop) : Prop :=
  match Γ ty with
  | some e => match e.d, x with
    | .slice _, .nl => k (.i .i64 0)
    | _, _ => False
  | none => False

/-- Parts laid into a row of cells. -/
def setAll : List AV → Nat → List AV → List AV
  | cs, _, [] => cs
  | cs, o, x :: xs => setAll (cs.set o x) (o + 1) xs

def fillA (place : Nat → Option (Nat × Nat)) : List AV → List (Nat × AV) → Option (List AV)
  | cs, [] => some cs
  | cs, (i, x) :: rest => match place i with
    | none => none
    | some (off, size) => if (cellsA x).length ≠ size ∨ okA x = false ∨ off + (cellsA x).length > cs.length then none else fillA place (setAll cs off (cellsA x)) rest

/-- A slice expression's bounds. -/
def optI : Option AV → Option (Option Int)
  | none => some none
  | some (.i _ n) => some (some n)
  | some _ => none

def sop (Γ : TEnv) (ty : TypeId) (x : AV) (lo hi : Option AV) (k : AV → Prop) : Prop :=
  match Γ ty with
  | some e => match e.d with
    | .slice el => match Γ el with
      | some ee => match x, optI lo, optI hi with
        | .v n cs, some l, some h => 0 ≤ l.getD 0 ∧ l.getD 0 ≤ h.getD n ∧ h.getD n ≤ n ∧
            k (.v ((h.getD n).toNat - (l.getD 0).toNat) ((cs.drop ((l.getD 0).toNat * ee.size)).take (((h.getD n).toNat - (l.getD 0).toNat) * ee.size)))
        | .h id o n, some l, some h => ee.size = 1 ∧ 0 ≤ l.getD 0 ∧ l.getD 0 ≤ h.getD n ∧ h.getD n ≤ n ∧ k (.h id (o + (l.getD 0).toNat) ((h.getD n).toNat - (l.getD 0).toNat))
        | .nl, some l, some h => l.getD 0 = 0 ∧ h.getD 0 = 0 ∧ k .nl
        | _, _, _ => False
      | none => False
    | _ => False
  | none => False

end Go.Proofs.Ytgeoogndonghmaa
