/- What one operation does, said of the abstract machine. -/
import Derived.Test.YtffhbadeoadbkaaAbsA
import Derived.Laws.StructEq
import Derived.Laws.Small
import Derived.Laws.Unary
import Derived.Laws.Strings
import Derived.Laws.Strings2
import Derived.Laws.Concat
namespace Go.Proofs.Ytffhbadeoadbkaa
open Go Go.RowKit

def look {α : Type} : List (Nat × α) → Nat → Option α
  | [], _ => none
  | p :: l, n => match Nat.beq n p.1 with
    | true => some p.2
    | false => look l n
/-- What an operation leaves: a value, changed rows, new rows. -/
structure Ef where
  v : TV
  up : List (Nat × Option Row)
  nw : List (Nat × Row)
def Ef.app (e : Ef) (hp : Hp) : Hp := fun n =>
  match look e.nw n with
  | some r => some r
  | none => match look e.up n with
    | some r => r
    | none => hp n
/-- How many names an operation may use. -/
def stride : Nat := 64
def EfOk (n0 : Nat) (fp : List (Nat × Row)) (e : Ef) : Prop := (∀ p ∈ e.nw, n0 ≤ p.1 ∧ p.1 < n0 + stride) ∧ ∀ p ∈ e.up, ∃ q ∈ fp, q.1 = p.1
def SemOp (P : Program) (o : Oper) (tv : Operand → TV) (n0 : Nat) (fp : List (Nat × Row)) (E : Ef → Prop) : Prop :=
  ∀ (F : Fr) (ρ : Nm) (hp : Hp) (a : Act) (w : World) (Q : Exit → Act → World → Prop) (K : Act → World → Prop),
    (∀ x ∈ o.op.operands, VT ρ (tv x) (a.eval x)) → Conc F ρ hp w → (∀ p ∈ fp, hp p.1 = some p.2) → (∀ n, n0 ≤ n → n < n0 + stride → ρ n = none) →
    (∀ e ρ' v w', E e → Ext ρ ρ' → (∀ n, ¬ (n0 ≤ n ∧ n < n0 + stride) → ρ' n = ρ n) → VT ρ' e.v v → Conc F ρ' (e.app hp) w' → K (a.put o.dst v) w') →
    o.wp P a w K Q

theorem Ef.app_none (v : TV) (hp : Hp) : Ef.app ⟨v, [], []⟩ hp = hp := rfl
/-- An operation that reads and yields a value. -/
theorem SemOp.read {P : Program} {o : Oper} {tv : Operand → TV} {n0 : Nat} {fp : List (Nat × Row)} {v : TV}
    (h : ∀ F ρ hp (a : Act) w, (∀ x ∈ o.op.operands, VT ρ (tv x) (a.eval x)) → Conc F ρ hp w → (∀ p ∈ fp, hp p.1 = some p.2) → ∃ u, VT ρ v u ∧ (execOp a.eval o).run P w = .ok (.value u) w) :
    SemOp P o tv n0 fp (· = ⟨v, [], []⟩) := by
  intro F ρ hp a w Q K h1 h2 h3 _ hK
  obtain ⟨u, hu, hr⟩ := h F ρ hp a w h1 h2 h3
  unfold Oper.wp
  rw [hr, Oper.upon_value]
  exact hK _ ρ u w rfl (Ext.refl _) (fun _ _ => rfl) hu (by rw [Ef.app_none]; exact h2)
/-- An operation that lays one new row. -/
theorem SemOp.mk {P : Program} {o : Oper} {tv : Operand → TV} {n0 : Nat} {fp : List (Nat × Row)} {v : TV} {es : Nat} {cells : List SV}
    (h : ∀ F ρ hp (a : Act) w, (∀ x ∈ o.op.operands, VT ρ (tv x) (a.eval x)) → Conc F ρ hp w → (∀ p ∈ fp, hp p.1 = some p.2) →
      ∃ (u : Value) (c : Array Value) (t : TypeId) (w1 : World), cells.length ≤ c.size ∧ (∀ (k : Nat) s, cells[k]? = some s → ∃ v, c[k]? = some v ∧ VS ρ s v) ∧ (∀ ρ', Ext ρ ρ' → ρ' n0 = some (.at ⟨w.heap.size, 0, c.size, es⟩) → VT ρ' v u) ∧
        w1.heap = w.heap ∧ w1.os = w.os ∧ w1.tape = w.tape ∧ w1.output = w.output ∧ (execOp a.eval o).run P w = .ok (.value u) (w1.alloc (.cells c t))) :
    SemOp P o tv n0 fp (· = ⟨v, [], [(n0, ⟨true, es, cells⟩)]⟩) := by
  intro F ρ hp a w Q K h1 h2 h3 h4 hK
  obtain ⟨u, c, t, w1, hl, hc, hu, e1, e2, e3, e4, hr⟩ := h F ρ hp a w h1 h2 h3
  have hn : ρ n0 = none := h4 n0 (Nat.le_refl _) (by unfold stride; omega)
  have h2' := h2.same e1 e2 e3 e4
  obtain ⟨hx, hn2⟩ := h2'.new hn es cells c t hl hc
  rw [e1] at hx hn2
  unfold Oper.wp
  rw [hr, Oper.upon_value]
  refine hK _ _ u _ rfl hx (fun n hne => ?_) (hu _ hx (Nm.set_same _ _ _)) ?_
  · unfold Nm.set; rw [if_neg]; rintro rfl; exact hne ⟨Nat.le_refl _, by unfold stride; omega⟩
  · have e : Ef.app ⟨v, [], [(n0, ⟨true, es, cells⟩)]⟩ hp = Hp.set hp n0 (some ⟨true, es, cells⟩) := by
      funext m
      unfold Ef.app Hp.set look
      cases hb : Nat.beq m n0 with
      | true => rw [if_pos (Nat.eq_of_beq_eq_true hb)]
      | false => rw [if_neg (Nat.ne_of_beq_eq_false hb)]; rfl
    rw [e]; exact hn2
theorem mem1 {α : Type} {x : α} {l : Array α} (h : l = #[x]) : x ∈ l := by subst h; simp
variable {P : Program} {o : Oper} {tv : Operand → TV} {n0 : Nat}

theorem sem_move (x : Operand) (ho : o.op = .move x) : SemOp P o tv n0 [] (· = ⟨tv x, [], []⟩) :=
  SemOp.read fun F ρ hp a w h1 _ _ => ⟨a.eval x, h1 x (by rw [ho]; simp [Op.operands]), by unfold execOp; rw [ho]; rfl⟩
theorem sem_assign (x : Operand) (ho : o.op = .assign x) : SemOp P o tv n0 [] (· = ⟨tv x, [], []⟩) :=
  SemOp.read fun F ρ hp a w h1 _ _ => ⟨a.eval x, h1 x (by rw [ho]; simp [Op.operands]), by unfold execOp; rw [ho]; rfl⟩
theorem sem_pick (c x y : Operand) (b : Bool) (ho : o.op = .pick c x y) (hc : tv c = .a (.s (.bool b))) : SemOp P o tv n0 [] (· = ⟨if b then tv x else tv y, [], []⟩) :=
  SemOp.read fun F ρ hp a w h1 _ _ => by
    have h2 := h1 c (by rw [ho]; simp [Op.operands])
    rw [hc] at h2
    have h3 : a.eval c = .bool b := h2
    refine ⟨if b then a.eval x else a.eval y, ?_, ?_⟩
    · cases b
      · exact h1 y (by rw [ho]; simp [Op.operands])
      · exact h1 x (by rw [ho]; simp [Op.operands])
    · unfold execOp; rw [ho]; simp [h3, asBool]
/-- The value of a binary operation on two numbers; none: it may panic. -/
def ibin (op : BinOp) (k : IntKind) (x y : Int) : Option SV :=
  match op with
  | .add => some (.int k (k.wrap (x + y)))
  | .sub => some (.int k (k.wrap (x - y)))
  | .mul => some (.int k (k.wrap (x * y)))
  | .and => some (.int k (bits .and k x y))
  | .or => some (.int k (bits .or k x y))
  | .xor => some (.int k (bits .xor k x y))
  | .andNot => some (.int k (bits .andNot k x y))
  | .eql => some (.bool (x == y))
  | .neq => some (.bool (x != y))
  | .lss => some (.bool (x < y))
  | .leq => some (.bool (x ≤ y))
  | .gtr => some (.bool (x > y))
  | .geq => some (.bool (x ≥ y))
  | _ => none
theorem eqGuard_int (op : BinOp) (t : TypeId) (x y : Operand) (k : IntKind) (n : Int) (v : Value) : eqGuard op t x y (.int k n) v = pure () := by cases op <;> rfl
theorem eval2 {ρ : Nm} {a : Act} {x : Operand} {s : SV} (h1 : ∀ z ∈ o.op.operands, VT ρ (tv z) (a.eval z)) (hm : x ∈ o.op.operands) (hx : tv x = .a (.s s)) : VS ρ s (a.eval x) := by
  have := h1 x hm; rw [hx] at this; exact this
theorem sem_ibin (op : BinOp) (t : TypeId) (x y : Operand) (t2 : TypeId) (k : IntKind) (m n : Int) (s : SV) (ho : o.op = .binOp op t x y t2) (hx : tv x = .a (.s (.int k m))) (hy : tv y = .a (.s (.int k n)))
    (hs : ibin op k m n = some s) : SemOp P o tv n0 [] (· = ⟨.a (.s s), [], []⟩) :=
  SemOp.read fun F ρ hp a w h1 _ _ => by
    have h2 : a.eval x = .int k m := eval2 h1 (by rw [ho]; simp [Op.operands]) hx
    have h3 : a.eval y = .int k n := eval2 h1 (by rw [ho]; simp [Op.operands]) hy
    unfold execOp; rw [ho]
    simp only [h2, h3, eqGuard_int]
    cases op <;> simp only [ibin, Option.some.injEq, reduceCtorEq] at hs <;> subst hs
    case add => exact ⟨_, rfl, by simp [binOp, Op.intArith]⟩
    case sub => exact ⟨_, rfl, by simp [binOp, Op.intArith]⟩
    case mul => exact ⟨_, rfl, by simp [binOp, Op.intArith]⟩
    case and => exact ⟨_, rfl, by simp [binOp, intBits_and]⟩
    case or => exact ⟨_, rfl, by simp [binOp, intBits_or]⟩
    case xor => exact ⟨_, rfl, by simp [binOp, intBits_xor]⟩
    case andNot => exact ⟨_, rfl, by simp [binOp, intBits_andNot]⟩
    all_goals exact ⟨_, rfl, by simp [binOp, Op.intCmp]⟩
theorem sem_div (t : TypeId) (x y : Operand) (t2 : TypeId) (k : IntKind) (m n : Int) (ho : o.op = .binOp .quo t x y t2) (hx : tv x = .a (.s (.int k m))) (hy : tv y = .a (.s (.int k n)))
    (hn : n ≠ 0) : SemOp P o tv n0 [] (· = ⟨.a (.s (.int k (k.wrap (m.tdiv n)))), [], []⟩) :=
  SemOp.read fun F ρ hp a w h1 _ _ => by
    have h2 : a.eval x = .int k m := eval2 h1 (by rw [ho]; simp [Op.operands]) hx
    have h3 : a.eval y = .int k n := eval2 h1 (by rw [ho]; simp [Op.operands]) hy
    unfold execOp; rw [ho]
    simp only [h2, h3, eqGuard_int]
    exact ⟨_, rfl, by simp [binOp, Op.intDiv, hn]⟩
theorem sem_rem (t : TypeId) (x y : Operand) (t2 : TypeId) (k : IntKind) (m n : Int) (ho : o.op = .binOp .rem t x y t2) (hx : tv x = .a (.s (.int k m))) (hy : tv y = .a (.s (.int k n)))
    (hn : n ≠ 0) : SemOp P o tv n0 [] (· = ⟨.a (.s (.int k (m.tmod n))), [], []⟩) :=
  SemOp.read fun F ρ hp a w h1 _ _ => by
    have h2 : a.eval x = .int k m := eval2 h1 (by rw [ho]; simp [Op.operands]) hx
    have h3 : a.eval y = .int k n := eval2 h1 (by rw [ho]; simp [Op.operands]) hy
    unfold execOp; rw [ho]
    simp only [h2, h3, eqGuard_int]
    exact ⟨_, rfl, by simp [binOp, Op.intDiv, hn]⟩
theorem sem_shl (t : TypeId) (x y : Operand) (t2 : TypeId) (k k' : IntKind) (m n : Int) (ho : o.op = .binOp .shl t x y t2) (hx : tv x = .a (.s (.int k m))) (hy : tv y = .a (.s (.int k' n)))
    (hn : 0 ≤ n) : SemOp P o tv n0 [] (· = ⟨.a (.s (.int k (k.wrap (m * 2 ^ min n.toNat k.bits)))), [], []⟩) :=
  SemOp.read fun F ρ hp a w h1 _ _ => by
    have h2 : a.eval x = .int k m := eval2 h1 (by rw [ho]; simp [Op.operands]) hx
    have h3 : a.eval y = .int k' n := eval2 h1 (by rw [ho]; simp [Op.operands]) hy
    unfold execOp; rw [ho]
    simp only [h2, h3, eqGuard_int]
    exact ⟨_, rfl, by simp [binOp, Op.shift, show ¬ n < 0 by omega]⟩
theorem sem_shr (t : TypeId) (x y : Operand) (t2 : TypeId) (k k' : IntKind) (m n : Int) (ho : o.op = .binOp .shr t x y t2) (hx : tv x = .a (.s (.int k m))) (hy : tv y = .a (.s (.int k' n)))
    (hn : 0 ≤ n) : SemOp P o tv n0 [] (· = ⟨.a (.s (.int k (m / 2 ^ min n.toNat k.bits))), [], []⟩) :=
  SemOp.read fun F ρ hp a w h1 _ _ => by
    have h2 : a.eval x = .int k m := eval2 h1 (by rw [ho]; simp [Op.operands]) hx
    have h3 : a.eval y = .int k' n := eval2 h1 (by rw [ho]; simp [Op.operands]) hy
    unfold execOp; rw [ho]
    simp only [h2, h3, eqGuard_int]
    refine ⟨_, rfl, ?_⟩
    have : m.fdiv (2 ^ min n.toNat k.bits) = m / 2 ^ min n.toNat k.bits := Int.fdiv_eq_ediv_of_nonneg _ (by exact_mod_cast Nat.zero_le _)
    simp [binOp, Op.shift, show ¬ n < 0 by omega, this]
/-- Two strings. -/
def sbin (op : BinOp) (x y : ByteArray) : Option SV :=
  match op with
  | .eql => some (.bool (x.toList == y.toList))
  | .neq => some (.bool !(x.toList == y.toList))
  | _ => none
theorem sem_sbin (op : BinOp) (t : TypeId) (x y : Operand) (t2 : TypeId) (m n : ByteArray) (s : SV) (ho : o.op = .binOp op t x y t2) (hx : tv x = .a (.s (.str m))) (hy : tv y = .a (.s (.str n)))
    (hs : sbin op m n = some s) : SemOp P o tv n0 [] (· = ⟨.a (.s s), [], []⟩) :=
  SemOp.read fun F ρ hp a w h1 _ _ => by
    have h2 : a.eval x = .string m := eval2 h1 (by rw [ho]; simp [Op.operands]) hx
    have h3 : a.eval y = .string n := eval2 h1 (by rw [ho]; simp [Op.operands]) hy
    unfold execOp; rw [ho]
    simp only [h2, h3, eqGuard_at_string]
    cases op <;> simp only [sbin, Option.some.injEq, reduceCtorEq] at hs <;> subst hs
    all_goals exact ⟨_, rfl, by simp [binOp, Op.stringOp]⟩
theorem sem_sadd (t : TypeId) (x y : Operand) (t2 : TypeId) (m n : ByteArray) (ho : o.op = .binOp .add t x y t2) (hx : tv x = .a (.s (.str m))) (hy : tv y = .a (.s (.str n)))
    (hs : m.size + n.size ≤ 9223372036854775807) : SemOp P o tv n0 [] (· = ⟨.a (.s (.str (m ++ n))), [], []⟩) :=
  SemOp.read fun F ρ hp a w h1 _ _ => by
    have h2 : a.eval x = .string m := eval2 h1 (by rw [ho]; simp [Op.operands]) hx
    have h3 : a.eval y = .string n := eval2 h1 (by rw [ho]; simp [Op.operands]) hy
    unfold execOp; rw [ho]
    simp only [h2, h3, eqGuard_at_string]
    have : ¬ ((9223372036854775807 : Int) < (m.size : Int) + n.size) := by omega
    exact ⟨_, rfl, by simp [binOp, Op.stringOp, this]⟩
/-- Two truth values. -/
def bbin (op : BinOp) (x y : Bool) : Option SV :=
  match op with
  | .eql => some (.bool (x == y))
  | .neq => some (.bool !(x == y))
  | _ => none
theorem sem_bbin (op : BinOp) (t : TypeId) (x y : Operand) (t2 : TypeId) (m n : Bool) (s : SV) (ho : o.op = .binOp op t x y t2) (hx : tv x = .a (.s (.bool m))) (hy : tv y = .a (.s (.bool n)))
    (ht : P.underlying t = some .bool) (hs : bbin op m n = some s) : SemOp P o tv n0 [] (· = ⟨.a (.s s), [], []⟩) :=
  SemOp.read fun F ρ hp a w h1 _ _ => by
    have h2 : a.eval x = .bool m := eval2 h1 (by rw [ho]; simp [Op.operands]) hx
    have h3 : a.eval y = .bool n := eval2 h1 (by rw [ho]; simp [Op.operands]) hy
    unfold execOp; rw [ho]
    simp only [h2, h3, eqGuard_at_bool]
    cases op <;> simp only [bbin, Option.some.injEq, reduceCtorEq] at hs <;> subst hs
    · exact ⟨_, rfl, by simp [run_eql_bool w t m n ht]⟩
    · exact ⟨_, rfl, by simp [run_neq_bool w t m n ht]⟩
def iun (op : UnOp) (k : IntKind) (x : Int) : Option SV :=
  match op with
  | .neg => some (.int k (k.wrap (0 - x)))
  | .xor => some (.int k (bits .xor k (if k.signed then -1 else k.max) x))
  | _ => none
theorem sem_iun (op : UnOp) (t : TypeId) (x : Operand) (k : IntKind) (m : Int) (s : SV) (ho : o.op = .unOp op t x) (hx : tv x = .a (.s (.int k m)))
    (hs : iun op k m = some s) : SemOp P o tv n0 [] (· = ⟨.a (.s s), [], []⟩) :=
  SemOp.read fun F ρ hp a w h1 _ _ => by
    have h2 : a.eval x = .int k m := eval2 h1 (by rw [ho]; simp [Op.operands]) hx
    unfold execOp; rw [ho]
    simp only [h2]
    cases op <;> simp only [iun, Option.some.injEq, reduceCtorEq] at hs <;> subst hs
    · exact ⟨_, rfl, by simp [Op.unary, Op.intArith]⟩
    · exact ⟨_, rfl, by simp [Op.unary, intBits_xor]⟩
theorem sem_not (t : TypeId) (x : Operand) (b : Bool) (ho : o.op = .unOp .not t x) (hx : tv x = .a (.s (.bool b))) : SemOp P o tv n0 [] (· = ⟨.a (.s (.bool !b)), [], []⟩) :=
  SemOp.read fun F ρ hp a w h1 _ _ => by
    have h2 : a.eval x = .bool b := eval2 h1 (by rw [ho]; simp [Op.operands]) hx
    unfold execOp; rw [ho]
    simp only [h2]
    exact ⟨_, rfl, by simp [Op.unary]⟩
end Go.Proofs.Ytffhbadeoadbkaa
